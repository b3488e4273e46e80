/- 35 -/
import Derived.Test.YtmehofoficaelaaGreatDoorP25
set_option linter.all false
open Go.IntKind renaming u8→aE,u64→cp,u32→di
open List renaming getElem?_eq_getElem→bf,getD_eq_getElem?_getD→cc,length_map→eh,zipWith→ej,replicate→ek,mem_singleton→ep,map_append→er,length_zipWith→eB,length_flatten→eK,map_cons→eL,all_eq_true→fa,range→fx,length→List.l
open Option renaming some→dx,none→fp
open Bool renaming false→ez,true→fb
open Int renaming toNat→Int.n
namespace Go.Proofs.YtmehofoficaelaaGreatDoor
open Go Go.AL
def Cl:List Int:=[1116352408,1899447441,3049323471,3921009573,961987163,1508970993,2453635748,2870763221,3624381080,310598401,607225278,1426881987,1925078388,2162078206,2614888103,3248222580,3835390401,4022224774,264347078,604807628,770255983,1249150122,1555081692,1996064986,2554220882,2821834349,2952996808,3210313671,3336571891,3584528711,113926993,338241895,666307205,773529912,1294757372,1396182291,1695183700,1986661051,2177026350,2456956037,2730485921,2820302411,3259730800,3345764771,3516065817,3600352804,4094571909,275423344,430227734,506948616,659060556,883997877,958139571,1322822218,1537002063,1747873779,1955562222,2024104815,2227730452,2361852424,2428436474,2756734187,3204031479,3329325298]
def DC:List Int:=[1779033703,3144134277,1013904242,2773480762,1359893119,2600822924,528734635,1541459225]
def tn(n x:Int):Int:=bits .or .u32 (nV .u32 x n) (AV .u32 x (32-n))
def xr(a b:Int):Int:=bits .xor .u32 a b
def ad(a b:Int):Int:=di.wrap (a+b)
def mx(x a b c:Int):Int:=xr (xr (tn a x) (tn b x)) (tn c x)
def wp(w:List Int)(n:Nat)(b:Int):List Int:=pt w (n / 4:Nat) (bits .or .u32 (AV .u32 (gt w (n / 4:Nat)) 8) b)
def SV(b:List Int):Nat->List Int
 | 0=>ek 64 0
 | n+1=>wp (SV b n) n (di.wrap (gt b n))
@[irreducible] def w1(b:List Int)(n:Nat):List Int:=SV b n
def wn(w:List Int)(t:Nat):List Int:=pt w t (ad (ad (ad (gt w (t-16:Nat)) (gt w (t-7:Nat))) (xr (xr (tn 7 (gt w (t-15:Nat))) (tn 18 (gt w (t-15:Nat)))) (nV .u32 (gt w (t-15:Nat)) 3)))
 (xr (xr (tn 17 (gt w (t-2:Nat))) (tn 19 (gt w (t-2:Nat)))) (nV .u32 (gt w (t-2:Nat)) 10)))
def SY(w:List Int):Nat->List Int
 | 0=>w
 | m+1=>wn (SY w m) (m+16)
@[irreducible] def w2(w:List Int)(n:Nat):List Int:=SY w n
@[irreducible] def xv(b:List Int):List Int:=w2 (w1 b 64) 48
def Cv(c:List Int)(k w:Int):List Int:=match c with
 | [c0,c1,c2,c3,c4,c5,c6,c7]=>
  let x:=ad (ad (ad (ad c7 (mx c4 6 11 25)) (xr (bits .and .u32 c4 c5) (bits .and .u32 (bits .xor .u32 di.max c4) c6))) k) w
  let y:=ad (mx c0 2 13 22) (xr (xr (bits .and .u32 c0 c1) (bits .and .u32 c0 c2)) (bits .and .u32 c1 c2))
  [ad x y,c0,c1,c2,ad c3 x,c4,c5,c6]
 | _=>[]
def Se(w c:List Int):Nat->List Int
 | 0=>c
 | n+1=>Cv (Se w c n) (gt Cl n) (gt w n)
@[irreducible] def tW(w c:List Int)(n:Nat):List Int:=Se w c n
@[irreducible] def vM(s b:List Int):List Int:=ej ad (tW (xv b) s 64) s
def PC(b:List Int)(s:List Int):Nat->List Int
 | 0=>s
 | n+1=>vM (PC b s n) ((b.drop (64*n)).take 64)
@[irreducible] def sy(b s:List Int)(n:Nat):List Int:=PC b s n
def Ct(n:Nat):Nat:=63-(n+8) % 64
def zO(n:Int):List Int:=[56,48,40,32,24,16,8,0].map λs:Int=>aE.wrap (nV .u64 n s)
@[irreducible] def pad(b:List Int):List Int:=b++128::(ek (Ct b.l) 0++zO (8*b.l))
@[irreducible] def AN(s:List Int):List Int:=(upto 32).map λi=>aE.wrap (nV .u32 (gt s (i / 4)) (24-8*(i % 4)))
@[irreducible] def lI(b:List Int):List Int:=AN (sy (pad b) DC ((pad b).l / 64))
def uU(n:Nat):Nat:=2 ^ (Nat.log2 (n-1))
def HM:Nat->List (List Int)->List Int
 | 0,_=>[]
 | _+1,[]=>lI []
 | _+1,[x]=>lI (0::x)
 | k+1,l=>lI (1::(HM k (l.take (uU l.l))++HM k (l.drop (uU l.l))))
@[irreducible] def ql(k:Nat)(l:List (List Int)):List Int:=HM k l
def tD(r:gT):List Int:=aE.wrap r.1 :: [24,16,8,0].map λs:Int=>aE.wrap (nV .i64 r.2 s)
end Go.Proofs.YtmehofoficaelaaGreatDoor
namespace Go.AL
open Go
@[irreducible] def fW(n:Int):List D:=[.val (.int .u32 n)]
@[simp] theorem aaX(n:Int):fW n = [.val (.int .u32 n)]:=by unfold fW;rfl
instance:Fl fW 1:=⟨λ_=>gP,λ_=>by simp[iB]⟩
@[simp] theorem aBR{l:List Int}{n:Int}{P:D->Prop}:oA (cl fW l)[n.n]? P .mk=(n.n<l.l/\P (.val (.int .u32 (gt l n)))):=by have:=Tt (f:=fW) (l:=l) (n:=n) (j:=0) jo (P:=P);simpa using this
def FX(l:List Int):(l.map λn=>D.val (.int .u32 n))=cl fW l:=by
 rw[pO]
 induction l with
 | nil=>rfl
 | cons a r b=>simp[b]
def Bo(l:List Int):(l.map λn=>D.val (.int .u8 n))=cl fU l:=by
 rw[pO]
 induction l with
 | nil=>rfl
 | cons a r b=>simp[b]
@[irreducible] def zs(n:Nat):List Int:=ek n 0
theorem xy(n:Nat):zs n=ek n 0:=by unfold zs;rfl
@[simp] theorem aFo(n:Nat):(zs n).l=n:=by rw[xy,fe]
@[simp] theorem aFn(n:Nat):(zs n).drop n = []:=bF gP
theorem gZ.st{T:jt}{live:List Nat}{a:IR}{s s':St}{K:jD}(hs:s=s')(h:gZ T live a s' K .mk):gZ T live a s K .mk:=by subst hs;exact h
@[simp] theorem awA(n:Nat):Zw n=cl fW (zs n):=by rw[<-FX,xy,fH];rfl
@[simp] theorem awz(n:Nat):Zb n=cl fU (zs n):=by rw[<-Bo,xy,fH];rfl
@[simp] theorem ayc(a b:List Int)(n:Int):cl fW a ++ .val (.int .u32 n)::cl fW b=cl fW (a++n::b):=by rw[<-Da,oG,aaX];rfl
@[simp] theorem agE(l:List Int)(n:Int):cl fU l ++ [.val (.int .u8 n)]=cl fU (l ++ [n]):=by rw[<-tE,By]
@[simp] theorem ams{l:List Int}{n:Int}{P:D->Prop}:oA (cl fU l)[n.n]? P .mk=(n.n<l.l/\P (.val (.int .u8 (gt l n)))):=by have:=Tt (f:=fU) (l:=l) (n:=n) (j:=0) jo (P:=P);simpa using this
@[simp] theorem awO(a b:Int):kW .add .u32 a b=dx (.val (.int .u32 (Proofs.YtmehofoficaelaaGreatDoor.ad a b))):=rfl
@[simp high] theorem aAM(n:Nat)(t:TypeId)(l:List Int):zn n 0 (dx (t,cl fW l))=if n<=l.l then dx (.agg (cl fW (l.take n)))else none:=pK
@[simp high] theorem aAL(n:Nat)(t:TypeId)(l:List Int):zn n 0 (dx (t,cl fU l))=if n<=l.l then dx (.agg (cl fU (l.take n)))else none:=pK
@[simp] theorem axx(t:TypeId)(m:Int)(n:Nat):sU t (.val (.int .u32 m)) n=dx (.ptr n 0 0,.new (.row t 0 [.val (.int .u32 m)])):=rfl
@[simp] theorem ayM(sz v g off len:Nat)(y:D)(H:gQ):Bs sz (.gR v g sz off len) y H=(lX sz H y).bind λq=>(rowAt H v g).bind λr=>if (off+len)*sz<=r.2.l then dx (.i (min q.2 len:Nat),.obj v (.row r.1 g (r.2.take (off*sz)++q.1.take (min q.2 len*sz)++r.2.drop (off*sz+min q.2 len*sz))))else none:=by
 simp only[Bs]
 cases lX sz H y with
 | none=>rfl
 | some q=>
  dsimp only
  cases rowAt H v g with
  | none=>rfl
  | some p=>simp
def cB(l:List Int):D:=.nj (l.map λn=>Value.int .u8 n)
@[simp] theorem agO(l:List Int):closed (cB l)=true:=rfl
theorem ae9:∀l:List Int,Ic (l.map fU)=dx (l.map λn=>Value.int .u8 n)
 | []=>rfl
 | a::r=>by rw[eL,By];unfold Ic;rw[ae9 r];rfl
@[simp] theorem agI(l:List Int):clip 1 (l.map fU)=cB l:=by unfold clip;rw[ae9];rfl
@[simp] theorem aBX{l:List Int}{n:Int}{k:IntKind}{P:D->Prop}:oA (ot 1 (cB l) (.val (.int k n))) P .mk=((0<=n/\n<l.l)/\P (.ie [.val (.int .u8 (gt l n))])):=by
 unfold cB;rw[akW,EH,Cq,eh];refine propext ⟨λ⟨h,a⟩=>⟨h,?_⟩,λ⟨h,a⟩=>⟨h,?_⟩⟩
 .rw[cc,aw,bf U,aK,bh]at a;rw[jU h.1 h.2];exact a
 .rw[cc,aw,bf U,aK,bh];rw[jU h.1 h.2]at a;exact a
@[simp] theorem aEJ(n:Nat)(l:List Int):jQ n (cB l) = []:=rfl
@[simp] theorem axK(l:List Int):cellsOf (cB l)=dx [cB l]:=rfl
@[simp] theorem aCA(l:List Int):one (cB l)=true:=rfl
@[simp] theorem aFc(l:List Int):pk (cB l) = []:=rfl
@[simp] theorem awE(t bytes:Nat)(l:List Int)(y:D)(H:gQ)(a:Nat):tC t 1 bytes (cB l) y H a=(lX 1 H y).bind λq=>if q.2≠0/\(l.l+q.2)*bytes<=140737488355328/\l.l+q.2<=9223372036854775807 then dx (.gR a 0 1 0 (l.l+q.2),.new (.row t 0 (cl fU l++q.1)))else none:=by unfold cB;rw[afV,eh,bC,<-Bo];rfl
def alo:Gk=cl fW Proofs.YtmehofoficaelaaGreatDoor.Cl:=FX _
def Zl:Ge=cl fW Proofs.YtmehofoficaelaaGreatDoor.DC:=FX _
end Go.AL
namespace Go.Proofs.YtmehofoficaelaaGreatDoor
open Go Go.AL Classical
set_option maxRecDepth 10000
set_option maxHeartbeats 4000000
def asI:∀m:Nat,m<31->bits .and .u64 (cp.wrap (-((m:Int)+1))) 31=32-((m:Int)+1)/\cp.wrap (32-(32-((m:Int)+1)))=(m:Int)+1:=jo
def arS(a b:Int):bits .or .u32 a b=bits .or .u32 b a:=by simp only[bits,BitVec.or_comm]
def Jz(x n:Int)(b:1<=n/\n<=31):Wf T 292 [.val (.int .u32 x),.i (-n)] [] (Is (.val (.int .u32 (tn n x)))):=by obtain⟨h1,a⟩:=asI (n-1).n U;rw[(U:(((n-1).n:Nat):Int)+1=n)]at h1 a;have e:bits .or .u32 (AV .u32 x (32-n)) (nV .u32 x n)=tn n x:=arS _ _;refine Yg Ny ?_;simp[Ny,h1,a,kW,e];exact oS
def TY(x n:Int)(a:1<=n/\n<=31):Wf T 293 [.i n,.ie [.val (.int .u32 x)]] [] (Is (.val (.int .u32 (tn n x)))):=by refine Yg Nz ?_;simp[Nz];refine gU ?_;refine Yc (Jz x n a) ?_;simp
def aaS(x a b c:Int)(f:1<=a/\a<=31)(e:1<=b/\b<=31)(d:1<=c/\c<=31):Wf T 276 [.val (.int .u32 x),.i a,.i b,.i c] [] (Is (.val (.int .u32 (mx x a b c)))):=by refine Yg Nv ?_;simp[Nv];refine Yr (TY x a f) ?_;simp;refine Yr (TY x b e) ?_;simp;refine Yr (TY x c d) ?_;simp;rfl
def yW(x n:Int)(a:1<=n/\n<=31):Wf T 258 [.i n,.val (.int .u32 x)] [] (Is (.val (.int .u32 (tn n x)))):=by refine Yg Nr ?_;simp[Nr];refine gU ?_;rfl
@[simp] theorem aFa(b:List Int):w1 b 0=zs 64:=by rw[w1,SV,xy]
theorem afe(b:List Int)(n:Nat):w1 b (n+1)=wp (w1 b n) n (di.wrap (gt b n)):=by rw[w1,w1,SV]
@[simp] theorem at7(w:List Int):w2 w 0=w:=by rw[w2,SY]
theorem afg(w:List Int)(n:Nat):w2 w (n+1)=wn (w2 w n) (n+16):=by rw[w2,w2,SY]
theorem Ie(b:List Int):∀n:Nat,n<=64->(w1 b n).l=64
 | 0,_=>gP
 | n+1,h=>by rw[afe,wp,jy U (by rw[Ie b n U];omega),Ie b n U]
theorem Mo{w:List Int}(h:w.l=64):∀m:Nat,m<=48->(w2 w m).l=64
 | 0,_=>by rw[at7];exact h
 | m+1,hm=>by rw[afg,wn,jy U (by rw[Mo h m U];omega),Mo h m U]
def aff{b:List Int}{i:Int}(i0:0<=i):w1 b (i+1).n=pt (w1 b i.n) (i / 4) (bits .or .u32 (AV .u32 (gt (w1 b i.n) (i / 4)) 8) (di.wrap (gt b i))):=by rw[(U:(i+1).n=i.n+1),afe,wp,(U:((i.n / 4:Nat):Int)=i / 4),(U:((i.n:Nat):Int)=i)]
def afh{w:List Int}{i:Int}(i0:16<=i):w2 w (i+1-16).n=pt (w2 w (i-16).n) i (ad (ad (ad (gt (w2 w (i-16).n) (i-16)) (gt (w2 w (i-16).n) (i-7)))
  (xr (xr (tn 7 (gt (w2 w (i-16).n) (i-15))) (tn 18 (gt (w2 w (i-16).n) (i-15)))) (nV .u32 (gt (w2 w (i-16).n) (i-15)) 3)))
  (xr (xr (tn 17 (gt (w2 w (i-16).n) (i-2))) (tn 19 (gt (w2 w (i-16).n) (i-2)))) (nV .u32 (gt (w2 w (i-16).n) (i-2)) 10))):=by
 rw[(U:(i+1-16).n=(i-16).n+1),afg,wn]
 rw[(U:(((i-16).n+16:Nat):Int)=i),(U:(((i-16).n+16-16:Nat):Int)=i-16),(U:(((i-16).n+16-7:Nat):Int)=i-7),
  (U:(((i-16).n+16-15:Nat):Int)=i-15),(U:(((i-16).n+16-2:Nat):Int)=i-2)]
def Xw(b:List Int):xv b=w2 (w1 b 64) 48:=by rw[xv]
def aeQ(b:List Int):(xv b).l=64:=by rw[Xw];exact Mo (Ie b 64 (Nat.le_refl _)) 48 (Nat.le_refl _)
def aiU(b:List Int)(l:b.l=64):Wf T 275 [cB b] [] (Is (.agg (cl fW (xv b)))):=by
 obtain⟨W,g⟩:∃W,xv b=W:=⟨_,rfl⟩;rw[g];rw[Xw]at g;refine Yg Nu ?_;simp[Nu];refine gZ.e ((0,zs 64):Int×List Int) (λy=>[(0,cB b),(2,.ptr 0 0 0),(3,.ptr 1 0 0),(10,.i y.1)]) (λy=>[.row 375 0 (cl fW (zs 64)),.row 375 0 (cl fW y.2)]) (λy=>(0<=y.1/\y.1<=64)/\y.2=w1 b y.1.n) (λy=>(64-y.1).n) ?_ ?_
 .simp
 rintro⟨i,w⟩ ⟨⟨i0,f⟩,c⟩;dsimp only at i0 f c ⊢;have hl:w.l=64:=by rw[c];exact Ie b i.n U
 by_cases hi:i<64
 .have h:vF i 4=i / 4:=xq i0 U U;have hs:=aff (b:=b) i0;rw[<-c]at hs;simp[hi,h];refine jM h ?_;refine LJ.e (i+1,pt w (i / 4) (bits .or .u32 (AV .u32 (gt w (i / 4)) 8) (di.wrap (gt b i)))) ?_;exact⟨U,jc,hs.symm⟩
 .have d:i=64:=by omega
  subst d;simp;refine gZ.st lO ?_;refine gZ.e ((16,w):Int×List Int) (λy=>[(2,.ptr 0 0 0),(3,.ptr 1 0 0),(5,.i y.1)]) (λy=>[.row 375 0 (cl fW (zs 64)),.row 375 0 (cl fW y.2)]) (λy=>(16<=y.1/\y.1<=64)/\y.2=w2 w (y.1-16).n) (λy=>(64-y.1).n) ?_ ?_
  .simp
  rintro⟨i,x⟩ ⟨⟨i0,f⟩,a⟩;dsimp only at i0 f a ⊢;have j:x.l=64:=by rw[a];exact Mo hl (i-16).n U
  by_cases hi:i<64
  .have hs:=afh (w:=w) i0;rw[<-a]at hs;simp[hi];refine gU ?_;refine Yc (Jz _ 7 U) ?_;simp;refine Yc (Jz _ 18 U) ?_;simp;refine gU ?_;refine Yc (Jz _ 17 U) ?_;simp;refine Yc (Jz _ 19 U) ?_;simp;refine gU ?_;refine LJ.i (i+1,w2 w (i+1-16).n) (by first|rfl|simp[hs,xr]) (by first|rfl|simp[hs,xr]) rfl rfl ?_;exact⟨U,jc,rfl⟩
  .have d:i=64:=by omega
   subst d;have e:x=W:=by rw[a,<-g,c,show((64:Int)-16).n=48 from rfl,show(64:Int).n=64 from rfl]
   subst e;have k:x.take 64=x:=af U;simp[j,k]
def aiR(b:List Int)(o:b.l=64):Wf T 256 [dU b] [] (Is (.agg (cl fW (xv b)))):=by
 obtain⟨W,h⟩:∃W,xv b=W:=⟨_,rfl⟩;rw[h];rw[Xw]at h;refine Yg Nq ?_;simp[Nq];refine gZ.e ((0,zs 64):Int×List Int) (λy=>[(0,dU b),(2,.ptr 0 0 0),(3,.ptr 1 0 0),(4,.i y.1)]) (λy=>[.row 375 0 (cl fW (zs 64)),.row 375 0 (cl fW y.2)]) (λy=>(0<=y.1/\y.1<=16)/\y.2=w1 b (4*y.1).n) (λy=>(16-y.1).n) ?_ ?_
 .simp
 rintro⟨i,w⟩ ⟨⟨i0,g⟩,c⟩;dsimp only at i0 g c ⊢
 by_cases hi:i<16
 .simp[hi];refine gZ.e ((0,w):Int×List Int) (λy=>[(0,dU b),(2,.ptr 0 0 0),(3,.ptr 1 0 0),(4,.i i),(5,.i y.1)]) (λy=>[.row 375 0 (cl fW (zs 64)),.row 375 0 (cl fW y.2)]) (λy=>(0<=y.1/\y.1<=4)/\y.2=w1 b (4*i+y.1).n) (λy=>(4-y.1).n) ?_ ?_
  .simp[c]
  rintro⟨k,u⟩ ⟨⟨k0,k1⟩,d⟩;dsimp only at k0 k1 d ⊢;have hl:u.l=64:=by rw[d];exact Ie b (4*i+k).n U
  by_cases m:k<4
  .have e:=aff (b:=b) (i:=4*i+k) U;rw[<-d,(U:(4*i+k) / 4=i),(U:4*i+k+1=4*i+(k+1))]at e;simp[m];refine gU ?_;refine LJ.i (k+1,w1 b (4*i+(k+1)).n) (by first|rfl|simp[e]) (by first|rfl|simp[e]) rfl rfl ?_;exact⟨U,jc,rfl⟩
  .have j:k=4:=by omega
   subst j;simp;refine gU ?_;refine LJ.e (i+1,u) ?_;exact⟨U,jc,by rw[d,(U:4*(i+1)=4*i+4)]⟩
 .have f:i=16:=by omega
  subst f;have hl:w.l=64:=by rw[c];exact Ie b _ U
  simp;refine gZ.st lO ?_;refine gZ.e ((16,w):Int×List Int) (λy=>[(2,.ptr 0 0 0),(3,.ptr 1 0 0),(6,.i y.1)]) (λy=>[.row 375 0 (cl fW (zs 64)),.row 375 0 (cl fW y.2)]) (λy=>(16<=y.1/\y.1<=64)/\y.2=w2 w (y.1-16).n) (λy=>(64-y.1).n) ?_ ?_
  .simp
  rintro⟨i,x⟩ ⟨⟨i0,g⟩,a⟩;dsimp only at i0 g a ⊢;have l:x.l=64:=by rw[a];exact Mo hl (i-16).n U
  by_cases hi:i<64
  .have hs:=afh (w:=w) i0;rw[<-a]at hs;simp[hi];refine gU ?_;refine Yt (yW _ 7 U) ?_;simp;refine Yt (yW _ 18 U) ?_;simp;refine Yt (yW _ 17 U) ?_;simp;refine Yt (yW _ 19 U) ?_;simp;refine gU ?_;refine LJ.i (i+1,w2 w (i+1-16).n) (by first|rfl|simp[hs,xr]) (by first|rfl|simp[hs,xr]) rfl rfl ?_;exact⟨U,jc,rfl⟩
  .have f:i=64:=by omega
   subst f;have e:x=W:=by rw[a,<-h,c,show((64:Int)-16).n=48 from rfl,show(4*16:Int).n=64 from rfl]
   subst e;have n:x.take 64=x:=af U;simp[l,n]
def len8{l:List Int}(h:l.l=8):∃a b c d e f g i,l = [a,b,c,d,e,f,g,i]:=by
 match l,h with
 | [a,b,c,d,e,f,g,i],_=>exact⟨a,b,c,d,e,f,g,i,rfl⟩
def FV(a b c d e f g i:Int):cl fW [a,b,c,d,e,f,g,i] = [.val (.int .u32 a),.val (.int .u32 b),.val (.int .u32 c),.val (.int .u32 d),.val (.int .u32 e),.val (.int .u32 f),.val (.int .u32 g),.val (.int .u32 i)]:=(FX _).symm
def asg{c:List Int}(h:c.l=8)(k w:Int):(Cv c k w).l=8:=by obtain⟨_,_,_,_,_,_,_,_,rfl⟩:=len8 h;rfl
def W1(w c:List Int):tW w c 0=c:=by rw[tW,Se]
def ad6(w c:List Int)(n:Nat):tW w c (n+1)=Cv (tW w c n) (gt Cl n) (gt w n):=by rw[tW,tW,Se]
theorem HD(w:List Int){c:List Int}(h:c.l=8):∀n,(tW w c n).l=8
 | 0=>by rw[W1];exact h
 | n+1=>by rw[ad6];exact asg (HD w h n) _ _
def ad7{w c:List Int}{i:Int}(i0:0<=i):tW w c (i+1).n=Cv (tW w c i.n) (gt Cl i) (gt w i):=by rw[(U:(i+1).n=i.n+1),ad6,(U:((i.n:Nat):Int)=i)]
@[simp] theorem aDc(H:gQ)(b:List Int):jq H 40 (cB b) = []:=by unfold jq;rw[if_pos (agO b)]
@[simp] theorem aE7(n:Int):Ia .xor (.val (.int .u32 n))=dx (.val (.int .u32 (bits .xor .u32 di.max n))):=rfl
@[simp] theorem aBS{l:List Int}{n:Int}{P:D->Prop}:oA (cl fW (l.drop n.n))[0]? P .mk=(n.n<l.l/\P (.val (.int .u32 (gt l n)))):=by
 by_cases h:n.n<l.l
 .rw[bW h,oG,aaX];have:gt l n=l[n.n]:=by unfold gt;rw[cc,bf h];rfl
  rw[this];simp[h]
 .rw[bF U];simp[h]
def acp:Cl.l=64:=rfl
def ZW(c s:List Int)(i:Int)(u:List Int):Prop:=u.l=8/\∀j:Int,0<=j->gt u j=if j<i then ad (gt c j) (gt s j)else gt c j
def ZW.z{c s:List Int}(h:c.l=8):ZW c s 0 c:=⟨h,λj j0=>by rw[if_neg U]⟩
def ZW.n{c s u:List Int}{i:Int}(h:ZW c s i u)(i0:0<=i)(b:i<8):ZW c s (i+1) (pt u i (ad (gt u i) (gt s i))):=by
 have h1:=h.1;refine⟨by rw[jy i0 U];exact h1,λj j0=>?_⟩;rw[mY i0 U j0];have a:=h.2 j j0
 by_cases e:j=i
 .subst e;rw[if_pos rfl,if_pos U,a,if_neg U]
 .rw[if_neg e,a]
  by_cases q:j<i
  .rw[if_pos q,if_pos U]
  .rw[if_neg q,if_neg U]
def ZW.e{c s u:List Int}(h:ZW c s 8 u)(hs:s.l=8)(b:c.l=8):u=ej ad c s:=by have h1:=h.1;refine bH (by rw[eB];omega) λj j0 j1=>?_;have a:=h.2 j U;rw[if_pos U,jU U U,jU U U,jU U U]at a;rw[List.getElem_zipWith];exact a
def aiM(s b:List Int)(hs:s.l=8)(v:b.l=64):Wf T 223 [.agg (cl fW s),cB b] [] (Is (.agg (cl fW (vM s b)))):=by
 have c:=aiU b v;have l:=aeQ b;obtain⟨r,j⟩:∃r,vM s b=r:=⟨_,rfl⟩;have f:ej ad (tW (xv b) s 64) s=r:=by rw[<-j,vM]
 rw[j];obtain⟨w,n⟩:∃w,xv b=w:=⟨_,rfl⟩;rw[n]at c l f;clear n j;obtain⟨K,k⟩:∃K,Cl=K:=⟨_,rfl⟩;have B:K.l=64:=by rw[<-k];exact acp
 have o:s.take 8=s:=af U;refine Yg Nl ?_;simp[Nl,alo,k];refine Yt (c) ?_;simp[o,hs,l];refine gZ.e ((0,s):Int×List Int) (λy=>[(2,.ptr 0 0 0),(4,.ptr 1 0 0),(5,.ptr 2 0 0),(6,.ptr 3 0 0),(14,.i y.1)]) (λy=>[.row 323 0 (cl fW s),.row 323 0 (cl fW (zs 8)),.row 375 0 (cl fW w),.row 323 0 (cl fW y.2)]) (λy=>(0<=y.1/\y.1<=64)/\y.2=tW w s y.1.n) (λy=>(64-y.1).n) ?_ ?_
 .simp[W1]
 rintro⟨i,c⟩ ⟨⟨i0,h⟩,a⟩;dsimp only at i0 h a ⊢
 by_cases hi:i<64
 .have e:=ad7 (w:=w) (c:=s) i0;rw[<-a,k]at e;obtain⟨A,G,c2,F,z,E,D,C,x⟩:=len8 (show c.l=8 by rw[a];exact HD w hs _);subst x;rw[FV];simp[hi];refine Yt (aaS z 6 11 25 U U U) ?_;simp;refine gU ?_;refine Yt (aaS A 2 13 22 U U U) ?_;simp;refine gU ?_;refine LJ.i (i+1,tW w s (i+1).n) (by first|rfl|simp[e,Cv,FV,xr]) (by first|rfl|simp[e,Cv,FV,xr]) rfl rfl ?_;exact⟨U,jc,rfl⟩
 .have g:i=64:=by omega
  subst g;have m:c.l=8:=by rw[a];exact HD w hs _
  have q:ej ad c s=r:=by rw[a];exact f
  clear a f;simp;refine gZ.st lO ?_;refine gZ.e ((0,c):Int×List Int) (λy=>[(2,.ptr 0 0 0),(4,.ptr 1 0 0),(6,.ptr 3 0 0),(78,.i y.1)]) (λy=>[.row 323 0 (cl fW s),.row 323 0 (cl fW (zs 8)),.row 375 0 (cl fW w),.row 323 0 (cl fW y.2)]) (λy=>(0<=y.1/\y.1<=8)/\ZW c s y.1 y.2) (λy=>(8-y.1).n) ?_ ?_
  .exact⟨gP,ZW.z m⟩
  rintro⟨i,u⟩ ⟨⟨i0,h⟩,d⟩;dsimp only at i0 h d ⊢;have p:=d.1
  by_cases hi:i<8
  .simp[hi];refine gU ?_;refine LJ.e (i+1,pt u i (ad (gt u i) (gt s i))) ?_;exact⟨U,jc,d.n i0 hi⟩
  .have g:i=8:=by omega
   subst g;have e:u=r:=by rw[<-q];exact d.e hs m
   subst e;have t:u.take 8=u:=af U;simp[p,t]
def aiS:Wf T 257 [] [] (Is (.agg (cl fW Cl))):=by rw[<-FX];exact rn (k:=20) ia
def aaM:Wf T 208 [] [] (Is (.agg (cl fW DC))):=by rw[<-FX];exact rn (k:=20) ia
def aaN(s b:List Int)(hs:s.l=8)(A:b.l=64):Wf T 209 [.agg (cl fW s),dU b] [] (Is (.agg (cl fW (vM s b)))):=by
 have c:=aiR b A;have f:=aeQ b;have ck:=aiS;obtain⟨r,k⟩:∃r,vM s b=r:=⟨_,rfl⟩;have g:ej ad (tW (xv b) s 64) s=r:=by rw[<-k,vM]
 rw[k];obtain⟨w,q⟩:∃w,xv b=w:=⟨_,rfl⟩;rw[q]at c f g;clear q k;obtain⟨K,l⟩:∃K,Cl=K:=⟨_,rfl⟩;have x:K.l=64:=by rw[<-l];exact acp
 rw[l]at ck;have o:s.take 8=s:=af U;refine Yg Nh ?_;simp[Nh];refine Yc (c) ?_;simp[o,hs,f];refine Yc (ck) ?_;simp[o,hs,f,x];refine gZ.e ((0,s):Int×List Int) (λy=>[(2,.ptr 0 0 0),(4,.ptr 1 0 0),(5,.ptr 2 0 0),(6,.ptr 3 0 0),(7,.ptr 4 0 0),(8,.i y.1)]) (λy=>[.row 323 0 (cl fW s),.row 323 0 (cl fW (zs 8)),.row 375 0 (cl fW w),.row 375 0 (cl fW K),.row 323 0 (cl fW y.2)]) (λy=>(0<=y.1/\y.1<=64)/\y.2=tW w s y.1.n) (λy=>(64-y.1).n) ?_ ?_
 .simp[W1]
 rintro⟨i,c⟩ ⟨⟨i0,j⟩,a⟩;dsimp only at i0 j a ⊢
 by_cases hi:i<64
 .have e:=ad7 (w:=w) (c:=s) i0;rw[<-a,l]at e;obtain⟨n,G,c2,F,m,E,D,C,B⟩:=len8 (show c.l=8 by rw[a];exact HD w hs _);subst B;rw[FV];simp[hi];refine Yt (yW m 6 U) ?_;simp;refine Yt (yW m 11 U) ?_;simp;refine Yt (yW m 25 U) ?_;simp;refine gU ?_;refine Yt (yW n 2 U) ?_;simp;refine Yt (yW n 13 U) ?_;simp;refine Yt (yW n 22 U) ?_;simp;refine gU ?_;refine LJ.i (i+1,tW w s (i+1).n) (by first|rfl|simp[e,Cv,FV,xr,mx]) (by first|rfl|simp[e,Cv,FV,xr,mx]) rfl rfl ?_;exact⟨U,jc,rfl⟩
 .have h:i=64:=by omega
  subst h;have p:c.l=8:=by rw[a];exact HD w hs _
  have v:ej ad c s=r:=by rw[a];exact g
  clear a g;simp;refine gZ.st lO ?_;refine gZ.e ((0,c):Int×List Int) (λy=>[(2,.ptr 0 0 0),(4,.ptr 1 0 0),(7,.ptr 4 0 0),(11,.i y.1)]) (λy=>[.row 323 0 (cl fW s),.row 323 0 (cl fW (zs 8)),.row 375 0 (cl fW w),.row 375 0 (cl fW K),.row 323 0 (cl fW y.2)]) (λy=>(0<=y.1/\y.1<=8)/\ZW c s y.1 y.2) (λy=>(8-y.1).n) ?_ ?_
  .exact⟨gP,ZW.z p⟩
  rintro⟨i,u⟩ ⟨⟨i0,j⟩,d⟩;dsimp only at i0 j d ⊢;have t:=d.1
  by_cases hi:i<8
  .simp[hi];refine gU ?_;refine LJ.e (i+1,pt u i (ad (gt u i) (gt s i))) ?_;exact⟨U,jc,d.n i0 hi⟩
  .have h:i=8:=by omega
   subst h;have e:u=r:=by rw[<-v];exact d.e hs p
   subst e;have z:u.take 8=u:=af U;simp[t,z]
@[simp] theorem aEw(H:gQ)(l:List Int):lX 1 H (dU l)=dx (cl fU l,l.l):=by unfold dU;exact HS ..
theorem S1(n:Nat):zs n ++ [0]=zs (n+1):=by rw[xy,xy,fj]
@[simp] theorem aFm:zs 0 = []:=by rw[xy];rfl
theorem af6(n:Int):(zO n).l=8:=rfl
def Px(n:Int){i:Int}(i0:0<=i)(a:i<8):gt (zO n) i=aE.wrap (nV .u64 n (56-8*i)):=by have:i=0\/i=1\/i=2\/i=3\/i=4\/i=5\/i=6\/i=7:=U;rcases this with rfl|rfl|rfl|rfl|rfl|rfl|rfl|rfl<;>rfl
def SO{l:List Int}{i:Int}(i0:0<=i)(a:i<l.l):l.take (i+1).n=l.take i.n ++ [gt l i]:=by rw[(U:(i+1).n=i.n+1),du,bf U,dB,<-jU i0 a]
@[simp] theorem awW(a b:Int):kW .mul .u64 a b=dx (.val (.int .u64 (cp.wrap (a*b)))):=rfl
theorem wrap_u64{s:Int}(h0:0<=s)(h1:s<9223372036854775808):cp.wrap s=s:=by show s % 18446744073709551616=s;omega
def aiG(b:List Int)(D:b.l<=4000000000):Wf T 207 [dU b] [] (Is (dU (pad b))):=by
 obtain⟨B,d⟩:∃B,zO (8*b.l)=B:=⟨_,rfl⟩;have E:B.l=8:=by rw[<-d];rfl
 have x:∀i:Int,0<=i->i<8->gt B i=aE.wrap (nV .u64 (8*b.l) (56-8*i)):=λi i0 f=>by rw[<-d];exact Px _ i0 f
 obtain⟨p,j⟩:∃p,Ct b.l=p:=⟨_,rfl⟩;have A:p=63-(b.l+8) % 64:=by rw[<-j];rfl
 have hP:pad b=b++128::zs p++B:=by rw[pad,d,j,xy];simp
 obtain⟨C,o⟩:∃C,b++128::zs p=C:=⟨_,rfl⟩;rw[hP,o];clear hP d j;have n:cp.wrap (b.l:Int)=b.l:=wrap_u64 U U;have m:cp.wrap (8*(b.l:Int))=8*b.l:=wrap_u64 U U;refine Yg Fs ?_;simp[Fs];refine gU ?_;refine gZ.e ((2,b ++ [128]):Nat×List Int) (λy=>[(0,dU b),(3,.gR 0 y.1 1 0 y.2.l)]) (λy=>[.row 5 y.1 (cl fU y.2),.row 5 0 [.val (.int .u8 128)]]) (λy=>∃k:Nat,k<=p/\y.2=b++128::zs k) (λy=>b.l+1+p-y.2.l) ?_ ?_
 .exact⟨0,U,gP⟩
 rintro⟨g,q⟩ ⟨k,k0,a⟩;dsimp only at k0 a ⊢;have F:q.l=b.l+1+k:=by rw[a];simp;omega
 have h:iu ((q.l:Int)+8) 64=((q.l:Int)+8) % 64:=kK U
 by_cases v:k<p
 .have h1:¬((q.l:Int)+8) % 64=0:=by omega
  have t:q ++ [0]=b++128::zs (k+1):=by rw[a,<-S1];simp
  simp[h,h1];refine jM h ?_;refine LJ.e (g+1,q ++ [0]) ?_;exact⟨iz,k+1,v,t⟩
 .have r:k=p:=by omega
  subst r;have h1:((q.l:Int)+8) % 64=0:=U;rw[o]at a;subst a;simp[h,h1,n,m];refine ko n m ?_;refine gZ.e ((0,g,q):Int×Nat×List Int) (λy=>[(3,.gR 0 y.2.1 1 0 y.2.2.l),(4,.val (.int .u64 (8*b.l))),(5,.i y.1)]) (λy=>[.row 5 y.2.1 (cl fU y.2.2),.row 5 0 [.val (.int .u8 128)]]) (λy=>(0<=y.1/\y.1<=8)/\y.2.2=q++B.take y.1.n) (λy=>(8-y.1).n) ?_ ?_
  .simp
  rintro⟨i,w,u⟩ ⟨⟨i0,f⟩,c⟩;dsimp only at i0 f c ⊢;have z:u.l=q.l+i.n:=by rw[c];simp;omega
  by_cases hi:i<8
  .have e:=SO (l:=B) i0 U;rw[x i i0 hi]at e;simp[hi];refine gU ?_;refine LJ.e (i+1,w+1,u ++ [aE.wrap (nV .u64 (8*b.l) (56-8*i))]) ?_;exact⟨U,jc,by rw[e,c,aO]⟩
  .have s:i=8:=by omega
   subst s;have e:u=q++B:=by rw[c,af U]
   subst e;simp;refine gU ?_;rw[zX,er]
@[simp] theorem aEo(f:iM)(l:List Int)(lo hi:Option X):vH f 1 (dU l) lo hi=(jd f lo 0).bind λa=>(jd f hi l.l).bind λh=>if 0<=a/\a<=h/\h<=l.l then dx (dU ((l.drop a.n).take (h.n-a.n)))else none:=by unfold dU;rw[SB,eh];simp only[L7]
def adW(b:List Int):(pad b).l % 64=0/\(pad b).l<=b.l+73:=by rw[pad];have h:Ct b.l=63-(b.l+8) % 64:=rfl;have a:=af6 (8*b.l);simp only[aq,aF,fe,a];omega
def Pv{s b:List Int}(h:s.l=8):(vM s b).l=8:=by rw[vM,eB,HD _ h];omega
def Pz(b s:List Int):sy b s 0=s:=by rw[sy,PC]
def PA(b s:List Int)(n:Nat):sy b s (n+1)=vM (sy b s n) ((b.drop (64*n)).take 64):=by rw[sy,sy,PC]
theorem FQ(b:List Int){s:List Int}(h:s.l=8):∀n,(sy b s n).l=8
 | 0=>by rw[Pz];exact h
 | n+1=>by rw[PA];exact Pv (FQ b h n)
def Hv(s:List Int):(AN s).l=32:=by rw[AN,eh];rfl
def R8(s:List Int){i:Int}(i0:0<=i)(a:i<32):gt (AN s) i=aE.wrap (nV .u32 (gt s (i / 4)) (24-8*(i % 4))):=by
 have hl:(upto 32).l=32:=rfl;rw[jU i0 (by rw[Hv];omega)]
 have e:(upto 32)[i.n]' U=i:=by unfold upto;simp;omega
 simp only[AN,br,e]
def aaJ(b:List Int)(J:b.l<=4000000000):Wf T 141 [dU b] [] (Is (.agg (cl fU (lI b)))):=by
 have p:=aiG b J;have q:=aaM;have G:=adW b;obtain⟨P,hP⟩:∃P,pad b=P:=⟨_,rfl⟩;obtain⟨S,hS⟩:∃S,DC=S:=⟨_,rfl⟩;have v:S.l=8:=by rw[<-hS];rfl
 obtain⟨r,o⟩:∃r,lI b=r:=⟨_,rfl⟩;have d:AN (sy P S (P.l / 64))=r:=by rw[<-o,lI,hP,hS]
 rw[hP]at p G;rw[hS]at q;rw[o];clear hP hS o;refine Yg Fo ?_;simp[Fo];refine Yc (p) ?_;simp;refine Yc (q) ?_;simp[v];refine gZ.e ((0,S):Int×List Int) (λy=>[(2,.ptr 0 0 0),(3,dU P),(4,.ptr 1 0 0),(5,.i y.1)]) (λy=>[.row 70 0 (cl fU (zs 32)),.row 323 0 (cl fW y.2)]) (λy=>∃n:Nat,y.1=64*n/\y.1<=P.l/\y.2=sy P S n) (λy=>(P.l+64-y.1).n) ?_ ?_
 .exact⟨0,gP,gP,by simp[Pz]⟩
 rintro⟨i,s⟩ ⟨n,iG,l,hs⟩;dsimp only at iG l hs ⊢;have a:s.l=8:=by rw[hs];exact FQ P v n
 by_cases hi:i<P.l
 .have f:s.take 8=s:=af U;have x:((P.drop i.n).take 64).l=64:=by rw[aM,aU];omega
  have e:=PA P S n;rw[<-hs,(U:64*n=i.n)]at e;have F:(i+64).n-i.n=64:=U;obtain⟨B,E⟩:∃B,(P.drop i.n).take 64=B:=⟨_,rfl⟩;rw[E]at x e;have c:=aaN s B a x;have z:=Pv (s:=s) (b:=B) a;obtain⟨A,I⟩:∃A,vM s B=A:=⟨_,rfl⟩;rw[I]at c e z;simp[hi,a,f];refine kf a f F ?_;rw[F,E];have w:s.drop 8 = []:=bF U;refine Yt (c) ?_;simp[z,a,f];refine gU ?_;refine LJ.i (i+64,A) (by first|rfl|simp[w]) (by first|rfl|simp[w]) rfl rfl ?_;exact⟨U,n+1,U,U,e.symm⟩
 .have k:n=P.l / 64:=by omega
  rw[<-k,<-hs]at d;have K:r.l=32:=by rw[<-d];exact Hv s
  have t:∀j:Int,0<=j->j<32->gt r j=aE.wrap (nV .u32 (gt s (j / 4)) (24-8*(j % 4))):=λj j0 j1=>by rw[<-d];exact R8 s j0 j1
  clear d hs p q;simp[hi];refine gU ?_;refine gZ.e ((0,zs 32):Int×List Int) (λy=>[(2,.ptr 0 0 0),(4,.ptr 1 0 0),(6,.ptr 2 0 0),(7,.i y.1)]) (λy=>[.row 70 0 (cl fU (zs 32)),.row 323 0 (cl fW s),.row 70 0 (cl fU y.2)]) (λy=>(0<=y.1/\y.1<=32)/\y.2.l=32/\∀j:Int,0<=j->j<y.1->gt y.2 j=gt r j) (λy=>(32-y.1).n) ?_ ?_
  .exact⟨gP,gP,λj j0 j1=>absurd j1 iv⟩
  rintro⟨i,u⟩ ⟨⟨i0,l⟩,g,m⟩;dsimp only at i0 l g m ⊢
  by_cases hi:i<32
  .have C:vF i 4=i / 4:=xq i0 U U;have D:iu i 4=i % 4:=kK i0;simp[hi,C,D];refine ko C D ?_;refine LJ.i (i+1,pt u i (gt r i)) (by first|rfl|simp[t i i0 hi]) (by first|rfl|simp[t i i0 hi]) rfl rfl ?_;refine⟨U,jc,by rw[jy i0 U];exact g,λj j0 j1=>?_⟩;dsimp only at j1 ⊢;rw[mY i0 U j0]
   by_cases e:j=i
   .rw[if_pos e,e]
   .rw[if_neg e];exact m j j0 U
  .have k:i=32:=by omega
   subst k
   have e:u=r:=by refine bH U λj j0 j1=>?_;have h:=m j U U;rw[jU U U,jU U U]at h;exact h
   subst e;have H:u.take 32=u:=af U;simp[g,H]
def pz(v:List gT)(b:List Bool):Nat->Int
 | 0 => -1
 | n+1=>if gt b (n:Int)=ez/\(gt v (n:Int)).1≠2 then max (pz v b n) (gt v (n:Int)).2 else pz v b n
@[simp] theorem azK(v:List gT)(b:List Bool):pz v b 0 = -1:=rfl
theorem ajH{v:List gT}{b:List Bool}{i:Int}(i0:0<=i):pz v b (i+1).n=if gt b i=ez/\(gt v i).1≠2 then max (pz v b i.n) (gt v i).2 else pz v b i.n:=by have h:(i+1).n=i.n+1:=U;have a:((i.n:Nat):Int)=i:=U;rw[h,pz,a]
def f163(v:List gT)(b:List Bool)(g:gY)(l:List Pos)(nx:List (List Int))(d:b.l=v.l)(e:v.l<=4000):Wf T 167 [.ie [iS v,.sl 1 (b.map fB),.i g.size,.sl 1 (g.next.map fI),dI g.jC,.sl 3 (g.kinds.map Kind.cells),.i g.iw,.b g.me,dN 4 Clause.cells g.clauses,.i g.blocked,.i g.oV,iZ l,.sl 1 (nx.map fN)]] [] (Is (.i (pz v b v.l))):=by
 refine Yg NZ ?_;simp[NZ];refine gU ?_;refine gZ.e (0:Int) (λy=>[(0,.ie [iS v,.sl 1 (b.map fB),.i g.size,.sl 1 (g.next.map fI),dI g.jC,.sl 3 (g.kinds.map Kind.cells),.i g.iw,.b g.me,dN 4 Clause.cells g.clauses,.i g.blocked,.i g.oV,iZ l,.sl 1 (nx.map fN)]),(3,.i (pz v b y.n)),(9,iS v),(10,.i v.l),(11,.i y)]) (λy=>[]) (λy=>0<=y/\y<=v.l) (λy=>(v.l-y).n) ?_ ?_
 .simp
 rintro i ⟨i0,c⟩;dsimp only at i0 c ⊢
 by_cases hi:i<v.l
 .have a:=ajH (v:=v) (b:=b) i0;simp[hi];(with_reducible repeat' first|refine Xk ?_<;>try simp|refine Xs ?_ ?_<;>intro h<;>(try intro f)<;>(try simp[h])<;>try omega|refine Xg ?_|omega)
  all_goals
   refine LJ.i (i+1) (by first|rfl|simp[a,h, *]) (by first|rfl|simp[a,h, *]) rfl rfl ?_;omega
 .have:i=v.l:=by omega
  subst this;simp
def p8(b:List Bool)(part:List Int)(n:Int):Nat->Int×Int
 | 0=>(0,-1)
 | k+1=>if gt b (gt part (k:Int))=fb/\vF (gt part (k:Int)) n≠(p8 b part n k).2 then((p8 b part n k).1+1,vF (gt part (k:Int)) n)else p8 b part n k
@[simp] theorem aAQ(b:List Bool)(part:List Int)(n:Int):p8 b part n 0=(0,-1):=rfl
theorem alw{b:List Bool}{part:List Int}{n i:Int}(i0:0<=i):p8 b part n (i+1).n=if gt b (gt part i)=fb/\vF (gt part i) n≠(p8 b part n i.n).2 then((p8 b part n i.n).1+1,vF (gt part i) n)else p8 b part n i.n:=by have h:(i+1).n=i.n+1:=U;have a:((i.n:Nat):Int)=i:=U;rw[h,p8,a]
theorem K7(b:List Bool)(part:List Int)(n:Int):∀k:Nat,0<=(p8 b part n k).1/\(p8 b part n k).1<=k
 | 0=>gP
 | k+1=>by
  have:=K7 b part n k;unfold p8;split
  .dsimp only;omega
  .omega
def f118(v:List gT)(b:List Bool)(g:gY)(l:List Pos)(nx:List (List Int))(part:List Int)(n:Int)(d:∀i∈part,0<=i/\i<b.l)(k:part.l<=4000)(j:b.l<=4000)(e:1<=n/\n<=9223372036854775807):Wf T 106 [.ie [iS v,.sl 1 (b.map fB),.i g.size,.sl 1 (g.next.map fI),dI g.jC,.sl 3 (g.kinds.map Kind.cells),.i g.iw,.b g.me,dN 4 Clause.cells g.clauses,.i g.blocked,.i g.oV,iZ l,.sl 1 (nx.map fN)],dI part,.i n] [] (Is (.i (p8 b part n part.l).1)):=by
 refine Yg M9 ?_;simp[M9];refine gU ?_;refine gZ.e (0:Int) (λy=>[(0,.ie [iS v,.sl 1 (b.map fB),.i g.size,.sl 1 (g.next.map fI),dI g.jC,.sl 3 (g.kinds.map Kind.cells),.i g.iw,.b g.me,dN 4 Clause.cells g.clauses,.i g.blocked,.i g.oV,iZ l,.sl 1 (nx.map fN)]),(2,.i n),(7,.i (p8 b part n y.n).1),(8,.i (p8 b part n y.n).2),(12,dI part),(13,.i part.l),(14,.i y)]) (λy=>[]) (λy=>0<=y/\y<=part.l) (λy=>(part.l-y).n) ?_ ?_
 .simp
 rintro i ⟨i0,c⟩;dsimp only at i0 c ⊢
 by_cases hi:i<part.l
 .have a:=alw (b:=b) (part:=part) (n:=n) i0;have iG:=d _ (ij i0 hi);have f:=K7 b part n i.n;simp[hi];(with_reducible repeat' first|refine Xk ?_<;>try simp|refine Xs ?_ ?_<;>intro h<;>(try intro m)<;>(try simp[h])<;>try omega|refine Xg ?_|omega)
  all_goals
   refine LJ.i (i+1) (by first|rfl|simp[a,h, *]) (by first|rfl|simp[a,h, *]) rfl rfl ?_;omega
 .have:i=part.l:=by omega
  subst this;simp
noncomputable def Dg(g:gY)(p:Pos):Int:=if ended g p then(gt g.clauses (w6 g p)).out else 0
def ahx{g:gY}{p:Pos}{i:Int}(i0:0<=i)(hi:i<g.clauses.l)(d:∀c∈g.clauses.take i.n,¬mj p c)(h:mj p (gt g.clauses i)):Dg g p=(gt g.clauses i).out:=by
 have a:ended g p:=⟨_,ij i0 hi,h⟩
 have b:g.clauses.findIdx (λc=>decide (mj p c))=i.n:=by
  rw[List.findIdx_eq U];refine⟨?_,λj e=>?_⟩
  .have:gt g.clauses i=g.clauses[i.n]:=by unfold gt;rw[cc,bf U];rfl
   rw[<-this];simpa using h
  .simp only[decide_eq_false_iff_not];refine d _ ?_;rw[ew];exact⟨j,U,rfl⟩
 unfold Dg w6;rw[if_pos a,if_pos a,b];congr 1
def ai8(g:gY)(hg:iE g)(p:Pos)(l:ja g p):Wf T 113 [dG g,dP p] [] (Is (.tup [.i (Dg g p),.b (decide (ended g p))])):=by
 have o:=hg.clauses;refine Yg Fz ?_;simp[Fz];refine gZ.e (0:Int) (λy=>[(2,.ptr 0 0 0),(3,.ptr 1 0 0),(9,dN 4 Clause.cells g.clauses),(10,.i g.clauses.l),(11,.i y)]) (λy=>[.row 43 0 g.cells,.row 46 0 p.cells]) (λy=>0<=y/\y<=g.clauses.l/\∀c∈g.clauses.take y.n,¬mj p c) (λy=>(g.clauses.l-y).n) ?_ ?_
 .simp
 rintro i ⟨i0,q,k⟩
 by_cases hi:i<g.clauses.l
 .have m:=ij i0 hi;have d:=hg.clause _ m;have r:=d.ok;have s:mj p (gt g.clauses i)->decide (ended g p)=true:=λh=>decide_eq_true ⟨_,m,h⟩;have n:mj p (gt g.clauses i)->ended g p:=λh=>⟨_,m,h⟩;have f:mj p (gt g.clauses i)->Dg g p=(gt g.clauses i).out:=λh=>ahx i0 hi k h
  have j:¬mj p (gt g.clauses i)->∀c∈g.clauses.take (i+1).n,¬mj p c:=λh c d=>by
   rw[jP i0 hi]at d;rcases ai.1 d with d|d
   .exact k c d
   .rw[ep.1 d];exact h
  simp[hi];refine gU ?_;rcases(U:(gt g.clauses i).cond=1\/(gt g.clauses i).cond=2\/(gt g.clauses i).cond=3)with e|e|e
  .simp[e];refine Yt (f294 g hg p l ⟨1,(gt g.clauses i).kind,(gt g.clauses i).n,(gt g.clauses i).out⟩ iv) ?_;simp;have b:mj p (gt g.clauses i)=(uE p p.side (gt g.clauses i).kind=0):=by simp[mj,e]
   by_cases a:uE p p.side (gt g.clauses i).kind=0
   .simp[a];exact⟨(f (b▸a)).symm,n (b▸a)⟩
   .simp[a];refine gU ?_;refine LJ.e (i+1) ?_;exact iQ (j (b▸a))
  .simp[e];refine Yt (f296 g hg p l ⟨2,(gt g.clauses i).kind,(gt g.clauses i).n,(gt g.clauses i).out⟩ iv iv) ?_;simp;have b:mj p (gt g.clauses i)=(gt p.cs (gt g.clauses i).n=lQ (gt g.clauses i).kind (1-p.side)):=by simp[mj,e]
   by_cases a:gt p.cs (gt g.clauses i).n=lQ (gt g.clauses i).kind (1-p.side)
   .simp[a];exact⟨(f (b▸a)).symm,n (b▸a)⟩
   .simp[a];refine gU ?_;refine LJ.e (i+1) ?_;exact iQ (j (b▸a))
  .simp[e];refine Yt (f297 g hg p l ⟨3,(gt g.clauses i).kind,(gt g.clauses i).n,(gt g.clauses i).out⟩) ?_;simp;have b:mj p (gt g.clauses i)=(uE p p.side (-1)<=(gt g.clauses i).n):=by simp[mj,e]
   by_cases a:uE p p.side (-1)<=(gt g.clauses i).n
   .simp[a];exact⟨(f (b▸a)).symm,n (b▸a)⟩
   .simp[a];refine gU ?_;refine LJ.e (i+1) ?_;exact iQ (j (b▸a))
 .simp[hi];have:¬ended g p:=λ⟨c,d,h⟩=>k c (by rw[nf U];exact d) h;simp[Dg,this]
def f54(g:gY)(hg:iE g)(p:Pos)(a:ja g p):Wf T 58 [dG g,dP p] [] (Is (.tup [.i (stat g p).1,.b (stat g p).2])):=by
 have b:ended g p->kd g p = []:=WH;refine Yg O1 ?_;simp[O1];refine Yc (ai8 g hg p a) ?_;simp
 by_cases h0:ended g p
 .simp[h0,stat,Dg,b h0]
 .simp[h0,stat,Dg];refine Yc (f26 g hg p a) ?_;simp;refine ma ?_ ?_<;>intro h
  all_goals simp[h0, *]
set_option maxHeartbeats 8000000
def mL(v:List gT)(b:List Bool)(x:List Int):Nat->Int×Int
 | 0=>(0,-1)
 | j+1=>if gt b (gt x (j:Int))=ez/\(gt v (gt x (j:Int))).1=1 then((mL v b x j).1+1,max (mL v b x j).2 (gt v (gt x (j:Int))).2)else mL v b x j
@[simp] theorem aFl(v:List gT)(b:List Bool)(x:List Int):mL v b x 0=(0,-1):=rfl
theorem auc{v:List gT}{b:List Bool}{x:List Int}{i:Int}(i0:0<=i):mL v b x (i+1).n=if gt b (gt x i)=ez/\(gt v (gt x i)).1=1 then((mL v b x i.n).1+1,max (mL v b x i.n).2 (gt v (gt x i)).2)else mL v b x i.n:=by have h:(i+1).n=i.n+1:=U;have a:((i.n:Nat):Int)=i:=U;rw[h,mL,a]
def yi(v:List gT)(b:List Bool)(x:List Int)(n:Int):Prop:=∃k∈x,gt b k=ez/\gt v k=(3,n-1)
noncomputable def nu(g:gY)(p:Pos)(v:List gT)(b:List Bool)(x:List Int)(n:Int):gT×Bool:=
 if n=0 then(((stat g p).1,0),(stat g p).2)else
 if yi v b x n then((1,n),fb)else((3,n),decide (0<x.l/\(mL v b x x.l).1=x.l/\(mL v b x x.l).2=n-1))
theorem SZ(v:List gT)(b:List Bool)(x:List Int):∀k:Nat,0<=(mL v b x k).1/\(mL v b x k).1<=k
 | 0=>gP
 | k+1=>by
  have:=SZ v b x k;unfold mL;split
  .dsimp only;omega
  .omega
def f119(g:gY)(hg:iE g)(l:List Pos)(hl:∀p∈l,ja g p)(v:List gT)(b:List Bool)(nx:List (List Int))(i n:Int)(hi:0<=i/\i<l.l)(u:0<=n/\n<=4000)(r:nx.l=l.l)
  (a:∀k∈gt nx i,0<=k/\k<l.l) (t:v.l=l.l) (w:b.l=l.l) (q:(gt nx i).l<=4000000000) :
  Wf T 107 [.ie [iS v,.sl 1 (b.map fB),.i g.size,.sl 1 (g.next.map fI),dI g.jC,.sl 3 (g.kinds.map Kind.cells),.i g.iw,.b g.me,dN 4 Clause.cells g.clauses,.i g.blocked,.i g.oV,iZ l,.sl 1 (nx.map fN)],.i i,.i n] []
   (Is (.tup [.agg [.i (nu g (gt l i) v b (gt nx i) n).1.1,.i (nu g (gt l i) v b (gt nx i) n).1.2],.b (nu g (gt l i) v b (gt nx i) n).2])):=by
 refine Yg Nf ?_;simp[Nf];(with_reducible repeat' first|refine Xk ?_<;>try simp[sC]|refine Xs ?_ ?_<;>intro h<;>(try intro m)<;>(try simp[h,sC])<;>try omega|refine Xg ?_|omega)
 .refine Yt (f54 g hg _ (hl _ (ij hi.1 hi.2))) ?_;simp;simp[nu,h]
 generalize hX:gt nx i=x at *;refine gZ.e (0:Int) (λy=>[(0,.ie [iS v,.sl 1 (b.map fB),.i g.size,.sl 1 (g.next.map fI),dI g.jC,.sl 3 (g.kinds.map Kind.cells),.i g.iw,.b g.me,dN 4 Clause.cells g.clauses,.i g.blocked,.i g.oV,iZ l,.sl 1 (nx.map fN)]),(1,.i i),(2,.i n),(6,.ptr 0 0 0),(10,.i (mL v b x y.n).1),(11,.i (mL v b x y.n).2),(41,dN 1 f1 x),(42,.i x.l),(43,.i y)]) (λy=>[.row 86 0 [.i 0,.i 0]]) (λy=>0<=y/\y<=x.l/\∀k∈x.take y.n,¬(gt b k=ez/\gt v k=(3,n-1))) (λy=>(x.l-y).n) ?_ ?_
 .simp
 rintro j ⟨j0,j1,j2⟩;dsimp only at j0 j1 j2 ⊢
 by_cases d:j<x.l
 .have c:=auc (v:=v) (b:=b) (x:=x) j0;have iG:=a _ (ij j0 d);have s:=SZ v b x j.n
  have e:¬(gt b (gt x j)=ez/\gt v (gt x j)=(3,n-1))->∀k∈x.take (j+1).n,¬(gt b k=ez/\gt v k=(3,n-1)):=λh k a=>by
   rw[jP j0 d]at a;rcases ai.1 a with a|a
   .exact j2 k a
   .rw[ep.1 a];exact h
  have f:∀y:gT,gt v (gt x j)=y↔(gt v (gt x j)).1=y.1/\(gt v (gt x j)).2=y.2:=λy=>Prod.ext_iff;simp[d];(with_reducible repeat' first|refine Xk ?_<;>try simp|refine Xs ?_ ?_<;>intro h<;>(try intro m)<;>(try simp[h])<;>try omega|refine Xg ?_|omega)
  .refine LJ.i (j+1) (by first|rfl|simp[c, *]) (by first|rfl|simp[c, *]) rfl rfl ?_;exact iQ (e (by simp[*]))
  .have hl:yi v b x n:=⟨_,ij j0 d,km,(f _).2 ⟨km,km⟩⟩;simp[nu,hl, *]
  .refine LJ.i (j+1) (by first|rfl|simp[c, *]) (by first|rfl|simp[c, *]) rfl rfl ?_;exact iQ (e (by rw[f];simp[*]))
  .refine LJ.i (j+1) (by first|rfl|simp[c, *]) (by first|rfl|simp[c, *]) rfl rfl ?_;exact iQ (e (by rw[f];simp[*]))
  .refine LJ.i (j+1) (by first|rfl|simp[c, *]) (by first|rfl|simp[c, *]) rfl rfl ?_;exact iQ (e (by rw[f];simp[*]))
 .have o:j=x.l:=by omega
  subst o;have hl:¬yi v b x n:=λ⟨k,a,h⟩=>j2 k (by rw[nf U];exact a) h;simp[d,sC,hX];(with_reducible repeat' first|refine Xk ?_<;>try simp[sC,hX]|refine Xs ?_ ?_<;>intro h<;>(try intro m)<;>(try simp[h,sC,hX])<;>try omega|refine Xg ?_|omega)
  all_goals simp[nu, *]
end Go.Proofs.YtmehofoficaelaaGreatDoor
namespace Go.AL
open Go
section
variable{T:jt}{live:List Nat}{a:IR}{s:St}{K:jD}{α:Type}
theorem gZ.kg(ms:List Nat)(rd:Bool)(b:α)(E:α->Env)(c:α->gQ)(P:α->Prop)(d:α->Nat)
  (h0:P b) (l:forget ((E b).map (·.1)) s.env=E b) (j:s.H=c b) (i:s.marks=ms) (g:s.iI=rd) (f:(((E b).map (·.1)).all λk=>live.contains k)=fb)
  (h:∀x,P x->XC T a { env:=E x,H:=c x,marks:=ms,iI:=rd } (vz s.H.l live ((E b).map (·.1)) (LJ E c ms rd (λe=>d e<d x/\P e) .mk) K)):gZ T live a s K .mk:=
 gZ.j b E c P d h0 l j f (by rw[i,g];exact h)
end
def Qa(H:gQ):Option Ob->Option D
 | some (.jO (.im m) since seen)=>(mU H m).bind λp=>seen.getLast?.bind λi=>p.2[i]?.bind λe=>if p.2.l=since then dx (.tup [uC e.1,e.2])else fp
 | _=>fp
theorem ahy(H:gQ)(x:Option Ob):(match x with
  | some (.jO (.im m) since seen)=>(match mU H m,seen.getLast? with
   | some (_,es),dx i=>(match es[i]? with
    | some (k,d)=>if es.l=since then dx (.tup [uC k,d])else fp
    | none=>fp)
   | _,_=>fp)
  | _=>fp)=Qa H x:=by
 unfold Qa;split
 .rename_i m since seen
  cases a:mU H m with
  | none=>simp
  | some p=>
   cases hs:seen.getLast? with
   | none=>simp
   | some i=>
    simp only[Option.bind_some];cases p.2[i]? <;> rfl
 .rfl
@[simp] theorem ayS(v:Nat)(H:gQ):Qb (.ptr v 0 0) H=Qa H H[v]? := ahy H H[v]?
@[simp] theorem ayR(H:gQ)(m since:Nat)(seen:List Nat):Qa H (dx (.jO (.im m) since seen))=(mU H m).bind λp=>seen.getLast?.bind λi=>p.2[i]?.bind λe=>if p.2.l=since then dx (.tup [uC e.1,e.2])else none:=rfl
@[simp] theorem aC5(m:Nat)(H:gQ)(a:Nat):Lz (.im m) H a=(mU H m).bind λp=>dx (.ptr a 0 0,.new (.jO (.im m) p.2.l [])):=by simp only[Lz];cases mU H m<;>rfl
def ub.at{v m since:Nat}{seen:List Nat}{kk:KK}{es:List (Value×D)}{dst:Option Nat}{s:St}{K:St->Prop}(a:s.H[v]? = dx (.jO (.im m) since seen))(b:s.H[m]? = dx (.map kk es))(hs:es.l=since)
  (h0:(∀i,i<es.l->i∈seen)->K { s with env:=put s.env dst (.tup [.b ez]) })
  (h1:∀i k d,es[i]? = dx (k,d)->i ∉ seen->K { s with env:=put s.env dst (.tup [.b fb,uC k,d]),H:=s.H.set v (.jO (.im m) since (seen ++ [i])) }):ub (.ptr v 0 0) dst s K .mk:=
 ⟨v,m,since,seen,kk,es,rfl,a,b,hs,h0,h1⟩
@[simp] theorem axv(t:TypeId)(v k o n:Nat):sU t (.ptr v k o) n=dx (.ptr n 0 0,.new (.row t 0 [.ptr v k o])):=rfl
@[simp] theorem axp(t:TypeId)(l:List Int)(n:Nat):sU t (dI l) n=dx (.ptr n 0 0,.new (.row t 0 [dI l])):=by unfold dI;rfl
@[simp] theorem aCi(n:Nat)(m:D)(since:Nat)(seen:List Nat):pg n (.jO m since seen) = []:=rfl
@[simp] theorem aDM(ρ:Nat->Option Nat)(H:gQ)(m:D)(since:Nat)(seen:List Nat):vG ρ H (dx (.jO m since seen)) = .jO (ib ρ H 40 m) since seen:=rfl
@[simp] theorem aDe(H:gQ)(k:Nat)(f:Fn)(a b:List D):jq H (k+1) (.fn f a b)=(a.map (jq H k)).flatten++(b.map (jq H k)).flatten:=by
 by_cases h:closed (.fn f a b)=fb
 .have c:=h;simp only[Tu,Bool.and_eq_true]at c;rw[LF h,LG c.1,LG c.2];rfl
 .rw[jq,if_neg h]
def ali(a b:Int):oz (.int .i64 a) (.int .i64 b)=decide (a=b):=by simp[oz,BEq.beq]
end Go.AL
namespace Go.Proofs.YtmehofoficaelaaGreatDoor
open Go Go.AL Classical
set_option maxRecDepth 10000
set_option maxHeartbeats 8000000
def BE{α:Type}[Inhabited α]{l a:List α}(h:l.l=a.l)(k:∀j:Int,0<=j->j<l.l->gt l j=gt a j):l=a:=
 bH h λi h1 b=>by have:=k i U U;rwa [w8 h1,w8 b]at this
def mn{α:Type}(v:List α)(en:Int->α):List Int->List α
 | []=>v
 | i::r=>mn (pt v i (en i)) en r
@[simp] theorem aC2{α:Type}(en:Int->α)(v:List α):mn v en []=v:=rfl
theorem AO{α:Type}(en:Int->α)(i:Int):∀(r:List Int) (v:List α),mn v en (r ++ [i])=pt (mn v en r) i (en i)
 | [],v=>rfl
 | j::r,v=>AO en i r (pt v j (en j))
theorem uF{α:Type}[Inhabited α](en:Int->α):∀(r:List Int) (v:List α),(∀i∈r,0<=i/\i<v.l)->(mn v en r).l=v.l
 | [],v,_=>rfl
 | i::r,v,h=>by have h1:=h i gP;have a:=jy (v:=en i) h1.1 h1.2;rw[mn,uF en r _ λj b=>by rw[a];exact h j (by simp[b]),a]
theorem z'{α:Type}[Inhabited α](en:Int->α):∀(r:List Int) (v:List α),(∀i∈r,0<=i/\i<v.l)->∀j:Int,0<=j->j<v.l->gt (mn v en r) j=if j∈r then en j else gt v j
 | [],v,_,j,_,_=>by simp[mn]
 | i::r,v,h,j,j0,j1=>by
  have h1:=h i gP;have c:=jy (v:=en i) h1.1 h1.2;rw[mn,z' en r _ (λk b=>by rw[c];exact h k (by simp[b])) j j0 U,mY h1.1 h1.2 j0]
  by_cases a:j∈r
  .simp[a]
  .by_cases e:j=i
   .subst e;simp[a]
   .simp[a,e]
def ad0{α:Type}[Inhabited α]{en:Int->α}{r r':List Int}{v:List α}(h:∀i∈r,0<=i/\i<v.l)(a:∀i,i∈r↔i∈r'):mn v en r=mn v en r':=by have b:∀i∈r',0<=i/\i<v.l:=λi hi=>h i ((a i).2 hi);have c:=uF en r v h;have e2:=uF en r' v b;refine BE U λj j0 j1=>?_;rw[z' en r v h j j0 U,z' en r' v b j j0 U];simp only[a]
def qu(en:Int->gT)(ds:List Int):List (Value×D):=ds.map λi=>(.int .i64 i,.agg [.i (en i).1,.i (en i).2])
theorem adb{en:Int->gT}{i:Int}:∀ {ds:List Int},i ∉ ds->lF (qu en ds) (.int .i64 i) (.agg [.i (en i).1,.i (en i).2])=qu en (ds ++ [i])
 | [],_=>by simp[qu,lF]
 | j::ds,h=>by have h1:i≠j:=λe=>h (by simp[e]);have a:i ∉ ds:=λe=>h (by simp[e]);have:=adb (en:=en) a;unfold qu at this ⊢;rw[eL,lF,ali,this];simp[h1]
@[simp] theorem ayW(en:Int->gT):qu en [] = []:=rfl
@[simp] theorem ahG(en:Int->gT)(ds:List Int):(qu en ds).l=ds.l:=by simp[qu]
theorem ahF{en:Int->gT}{ds:List Int}{i:Nat}{k:Value}{d:D}(h:(qu en ds)[i]? = dx (k,d)):i<ds.l/\k = .int .i64 (gt ds (i:Int))/\d = .agg [.i (en (gt ds (i:Int))).1,.i (en (gt ds (i:Int))).2]:=by unfold qu at h;rw[aw]at h;obtain⟨a,c,b⟩:=ar.1 h;obtain⟨hi,e⟩:=ae.1 c;refine⟨hi,?_⟩;rw[w8 hi,e];exact⟨(congrArg Prod.fst b).symm,(congrArg Prod.snd b).symm⟩
@[simp] theorem aDS(ρ:Nat->Option Nat)(H:gQ)(en:Int->gT)(ds:List Int):((qu en ds).map λx=>(x.1,ib ρ H 40 x.2))=qu en ds:=by unfold qu;rw[bC];refine au λi _=>?_;simp
@[simp] theorem aET(n:Nat)(en:Int->gT)(ds:List Int):((qu en ds).map λx=>jQ n x.2)=ds.map λ_=>[]:=by unfold qu;rw[bC];rfl
@[simp] theorem ay8(p:Nat->Bool)(n:Nat)(en:Int->gT)(ds:List Int):((qu en ds).map ((List.filter p) ∘ λx=>jQ n x.2))=ds.map λ_=>[]:=by unfold qu;rw[bC];rfl
@[simp] theorem azj{α b:Type}(ds:List α):(ds.map λ_=>([]:List b)).flatten = []:=by
 induction ds with
 | nil=>rfl
 | cons a r c=>simp
section
variable(g:gY)(l:List Pos)(nx:List (List Int))(part:List Int)
noncomputable def uf(v:List gT)(b:List Bool)(n:Int)(i:Int):gT:=(nu g (gt l i) v b (gt nx i) n).1
noncomputable def oB(v:List gT)(b:List Bool)(n:Int)(i:Int):Bool:=(nu g (gt l i) v b (gt nx i) n).2&&gt b i
noncomputable def sB(v:List gT)(b:List Bool)(n:Int):List Int:=part.filter (oB g l nx v b n)
noncomputable def rV(v:List gT)(b:List Bool)(n:Int):List gT:=mn v (uf g l nx v b n) (sB g l nx part v b n)
noncomputable def rB(v:List gT)(b:List Bool)(n:Int):List Bool:=mn b (λ_=>ez) (sB g l nx part v b n)
noncomputable def lM(bu:Int):Nat->Int->List gT->List Bool->Int->Int×List gT×List Bool
 | 0,_,v,b,t=>(t,v,b)
 | f+1,n,v,b,t=>if n<=pz (rV g l nx part v b n) (rB g l nx part v b n) v.l/\n<4000
  then lM bu f (n+1) (rV g l nx part v b n) (rB g l nx part v b n) (t+(p8 b part bu part.l).1)
  else(t+(p8 b part bu part.l).1,rV g l nx part v b n,rB g l nx part v b n)
def oX(v:List gT)(b:List Bool):List gT×List Bool:=(mn v (λ_=>(2,0)) (part.filter λi=>gt b i),mn b (λ_=>ez) (part.filter λi=>gt b i))
@[simp] theorem ay9(v:List gT)(b:List Bool):oX [] v b=(v,b):=rfl
noncomputable def nZ(bu:Int)(v:List gT)(b:List Bool):Int×List gT×List Bool:=
 let r:=lM g l nx part bu 4001 0 v (mn b (λ_=>fb) part) 0
 (r.1,oX part r.2.1 r.2.2)
end
def gk(ds:List Int)(a:List Nat):List Int:=a.map λj:Nat=>gt ds (j:Int)
@[simp] theorem azA(ds:List Int):gk ds [] = []:=rfl
theorem Wz{ds:List Int}{a:List Nat}(c:∀j∈a,j<ds.l)(b:∀j,j<ds.l->j∈a)(i:Int):i∈gk ds a↔i∈ds:=by
 unfold gk;simp only[aj];constructor
 .rintro⟨j,d,rfl⟩;exact ij U (by have:=c j d;omega)
 .intro h;obtain⟨n,n0,n1,e⟩:=th.1 h;exact⟨n.n,b _ U,by rw[(U:((n.n:Nat):Int)=n)];exact e⟩
def Qv{L:Nat}{ds:List Int}(b:∀i∈ds,0<=i/\i<L){a:List Nat}(c:∀j∈a,j<ds.l):∀i∈gk ds a,0<=i/\i<L:=λi hi=>by unfold gk at hi;obtain⟨j,d,rfl⟩:=aj.1 hi;exact b _ (ij U (by have:=c j d;omega))
def Ga(ds:List Int)(a:List Nat)(i:Nat):gk ds (a ++ [i])=gk ds a ++ [gt ds (i:Int)]:=by simp[gk]
def pN{l:List gT}{n:Int}(a b:Int):(cl fS l).take (n.n*2) ++ .i a :: .i b::(cl fS l).drop (n.n*2+2)=cl fS (pt l n (a,b)):=by rw[(U:n.n*2+2=(n.n+1)*2),xG,zV];unfold pt;rw[<-Da,oG,z6];rfl
def P3{g:gY}{l:List Pos}{nx:List (List Int)}{part:List Int}{v:List gT}{b:List Bool}{n i:Int}(h:i∈sB g l nx part v b n):i∈part:=(aH.1 h).1
def nG(w:Bool)(g:gY)(l:List Pos)(nx:List (List Int)):List D:=[.gR (bif w then 3 else 4) (bif w then 0 else 1) 2 0 l.l,.gR (bif w then 4 else 3) 0 1 0 l.l,.i g.size,.sl 1 (g.next.map fI),dI g.jC,.sl 3 (g.kinds.map Kind.cells),.i g.iw,.b g.me,dN 4 Clause.cells g.clauses,.i g.blocked,.i g.oV,iZ l,.sl 1 (nx.map fN)]
def tp(w:Bool):D:=.ptr (bif w then 2 else 1) 0 0
def H5(w:Bool)(z:List gT)(g:gY)(l:List Pos)(nx:List (List Int))(m:List Int)(v:List gT)(b:List Bool):gQ:=
 bif w then [.row 43 0 g.cells,.row 56 0 [dI m],.row 132 0 (nG w g l nx),.row 86 0 (cl fS v),.row 4 0 (cl fB b)]else [.row 43 0 g.cells,.row 132 0 (nG w g l nx),.row 86 0 (cl fS z),.row 4 0 (cl fB b),.row 86 1 (cl fS v)]
def HF(w:Bool)(z:List gT)(g:gY)(l:List Pos)(nx:List (List Int))(m:List Int)(part:List Int)(n t:Int)(v:List gT)(b:List Bool)(st:sx):gQ:=
 H5 w z g l nx m v b ++ [.row 125 0 [tp w],.row 37 0 [dI part],.row 3 0 [.i n],.row 3 0 [.i t],.row 125 0 [tp w],.jJ,.iV 3456 [(3,.ptr 5 0 0),(4,.ptr 6 0 0),(5,.ptr 7 0 0),(9,.ptr 8 0 0)] st]
structure pn(g:gY)(l:List Pos)(nx:List (List Int))(part:List Int)(bu:Int):Prop where
 gm:iE g
 ps:∀p∈l,ja g p
 len:l.l<=4000
 nxl:nx.l=l.l
 Ht:∀i:Int,0<=i->i<l.l->(∀k∈gt nx i,0<=k/\k<l.l)/\(gt nx i).l<=4000000000
 prt:∀i∈part,0<=i/\i<l.l
 nd:part.Nodup
 pl:part.l<=4000
 bu:1<=bu/\bu<=9223372036854775807
set_option maxHeartbeats 4000000
@[simp] theorem axq(t:TypeId)(l:List Int)(n:Nat):sU t (dU l) n=dx (.ptr n 0 0,.new (.row t 0 [dU l])):=rfl
@[simp] theorem aEi(f:iM)(l:List Int)(lo:Option X)(hi mx:X):AW f 1 (dU l) lo hi mx=(jd f lo 0).bind λa=>(wC (ev f hi)).bind λh=>(wC (ev f mx)).bind λm=>if 0<=a/\a<=h/\h=m/\m<=l.l then dx (cB ((l.drop a.n).take (h.n-a.n)))else none:=by unfold dU;rw[ati,eh];simp only[L7,agI]
def ik.n{T:jt}{f:FuncId}{args:List D}{dst:Option Nat}{s s':St}{K:St->Prop}(hs:s=s')(h:ik T f args dst s' K .mk):ik T f args dst s K .mk:=by subst hs;exact h
def aiK(b:List Int):Wf T 221 [dU b] [] (Is (cB b)):=by refine Yg Ft ?_;simp[Ft]
def aiL:Wf T 221 [.gV] [] (Is .gV):=by refine Yg Ft ?_;simp[Ft]
def aaO(b:List Int):Wf T 222 [dU b,.i 64] [] (Is (.fn (.func 274) [] [.ie [dU b],.ie [.i 64]])):=by refine Yg Nk ?_;simp[Nk]
def aaR(P S:List Int)(hl:P.l % 64=0)(p:P.l<=4000001000)(hS:S.l=8):Wf T 274 [.jF 5,.ie [dU P],.ie [.i 64]]
  [.row 70 0 (cl fU (zs 32)),.row 5 0 [.val (.int .u8 128)],.dead,.row 323 0 (cl fW S),.jJ,.iV 9920 [(5,.ptr 3 0 0)] .ready]
  (λ_ H'=>H' = [.row 70 0 (cl fU (zs 32)),.row 5 0 [.val (.int .u8 128)],.dead,.row 323 0 (cl fW (sy P S (P.l / 64))),.jJ,.iV 9920 [(5,.ptr 3 0 0)] .ready]):=by
 refine Yg Nt ?_;simp[Nt];refine gZ.e ((0,S):Int×List Int) (λy=>[(0,.jF 5),(1,.ie [dU P]),(2,.ie [.i 64]),(4,.i y.1)]) (λy=>[.row 70 0 (cl fU (zs 32)),.row 5 0 [.val (.int .u8 128)],.dead,.row 323 0 (cl fW y.2),.jJ,.iV 9920 [(5,.ptr 3 0 0)] .ready]) (λy=>∃n:Nat,y.1=64*n/\y.1<=P.l/\y.2=sy P S n) (λy=>(P.l+64-y.1).n) ?_ ?_
 .exact⟨0,gP,gP,by simp[Pz]⟩
 rintro⟨i,s⟩ ⟨n,iG,l,hs⟩;dsimp only at iG l hs ⊢;have a:s.l=8:=by rw[hs];exact FQ P hS n
 by_cases hi:i<P.l
 .have d:s.take 8=s:=af U;have j:s.drop 8 = []:=bF U;have f:((P.drop i.n).take 64).l=64:=by rw[aM,aU];omega
  have e:=PA P S n;rw[<-hs,(U:64*n=i.n)]at e;have o:(i+64).n-i.n=64:=U;have em:min 64 ((P.l-i.n:Nat):Int)=64:=U;obtain⟨B,h⟩:∃B,(P.drop i.n).take 64=B:=⟨_,rfl⟩;rw[h]at f e;have c:=aiM s B a f;have g:=Pv (s:=s) (b:=B) a;obtain⟨A,m⟩:∃A,vM s B=A:=⟨_,rfl⟩;rw[m]at c e g;simp[hi,em];refine jM em ?_;simp only[em,o,h];refine nJ.r (rf:=9920) (env0:=[(5,.ptr 3 0 0)]) (Rd:=FH) gP rfl rfl FH.a FH.b (ng rfl) (ng rfl) ?_;simp[FH,a,d];refine Yc (c) ?_;simp[g,a,d,j];refine gU ?_;refine LJ.e (i+64,A) ?_;exact⟨U,n+1,U,U,e.symm⟩
 .have k:n=P.l / 64:=by omega
  subst k;simp[hi,hs]
def aaK(b:List Int)(Z:b.l<=4000000000):Wf T 155 [dU b] [] (Is (.agg (cl fU (lI b)))):=by
 have R:=aiK b;obtain⟨B,w⟩:∃B,zO (8*b.l)=B:=⟨_,rfl⟩;have QE:B.l=8:=by rw[<-w];rfl
 have V:∀i:Int,0<=i->i<8->gt B i=aE.wrap (nV .u64 (8*b.l) (56-8*i)):=λi i0 o=>by rw[<-w];exact Px _ i0 o
 obtain⟨p,D⟩:∃p,Ct b.l=p:=⟨_,rfl⟩;have X:p=63-(b.l+8) % 64:=by rw[<-D];rfl
 have hP:pad b=b++128::zs p++B:=by rw[pad,w,D,xy];simp
 obtain⟨C,E⟩:∃C,b++128::zs p=C:=⟨_,rfl⟩;rw[E]at hP;have W:C.l=b.l+1+p:=by rw[<-E];simp;omega
 obtain⟨r,A⟩:∃r,lI b=r:=⟨_,rfl⟩;obtain⟨S,hS⟩:∃S,DC=S:=⟨_,rfl⟩;have x:S.l=8:=by rw[<-hS];rfl
 have n:AN (sy (C++B) S ((C++B).l / 64))=r:=by rw[<-A,lI,hP,hS]
 rw[A];clear hP w D A;have I:S.take 8=S:=af U;have s:cp.wrap (b.l:Int)=b.l:=wrap_u64 U U;have m:cp.wrap (8*(b.l:Int))=8*b.l:=wrap_u64 U U;refine Yz A' (jY 36 [2] A'.body) ?_;simp[A',jY,lV,po,py,pY,nQ,Zl,hS];refine Yc (R) ?_;simp;refine gU ?_;refine gZ.e ((0,b ++ [128]):Nat×List Int) (λy=>[(0,dU b),(2,.ptr 0 0 0),(3,.gR 2 y.1 1 0 y.2.l)]) (λy=>[.row 70 0 (cl fU (zs 32)),.row 5 0 [.val (.int .u8 128)],.row 5 y.1 (cl fU y.2)]) (λy=>∃k:Nat,k<=p/\y.2=b++128::zs k) (λy=>b.l+1+p-y.2.l) ?_ ?_
 .exact⟨0,U,gP⟩
 rintro⟨g,q⟩ ⟨k,k0,t⟩;dsimp only at k0 t ⊢;have Kr:q.l=b.l+1+k:=by rw[t];simp;omega
 have c:iu ((q.l:Int)+8) 64=((q.l:Int)+8) % 64:=kK U
 by_cases N:k<p
 .have h1:¬((q.l:Int)+8) % 64=0:=by omega
  have M:q ++ [0]=b++128::zs (k+1):=by rw[t,<-S1];simp
  simp[c,h1];refine jM c ?_;refine LJ.e (g+1,q ++ [0]) ?_;exact⟨iz,k+1,N,M⟩
 .have J:k=p:=by omega
  subst J;have h1:((q.l:Int)+8) % 64=0:=U;rw[E]at t;subst t;simp[c,h1,s,m];refine ko s m ?_;refine gZ.st lO ?_;refine gZ.e ((0,g,q):Int×Nat×List Int) (λy=>[(0,dU b),(2,.ptr 0 0 0),(3,.gR 2 y.2.1 1 0 y.2.2.l),(4,.i (56-8*y.1))]) (λy=>[.row 70 0 (cl fU (zs 32)),.row 5 0 [.val (.int .u8 128)],.row 5 y.2.1 (cl fU y.2.2)]) (λy=>(0<=y.1/\y.1<=8)/\y.2.2=q++B.take y.1.n) (λy=>(8-y.1).n) ?_ ?_
  .simp
  rintro⟨i,Q,u⟩ ⟨⟨i0,o⟩,a⟩;dsimp only at i0 o a ⊢;have d:u.l=q.l+i.n:=by rw[a];simp;omega
  by_cases hi:i<8
  .have e:=SO (l:=B) i0 U;rw[V i i0 hi]at e;have K:0<=56-8*i:=U;simp[K,m,s];(with_reducible repeat' first|refine Xk ?_<;>try simp[m,s]|refine Xs ?_ ?_<;>intro h<;>(try intro h')<;>(try simp[h,m,s])<;>try omega|refine Xg ?_|omega);refine LJ.i (i+1,Q+1,u ++ [aE.wrap (nV .u64 (8*b.l) (56-8*i))]) (by first|rfl|simp[(U:56-8*(i+1)=56-8*i-8)]) (by first|rfl|simp[(U:56-8*(i+1)=56-8*i-8)]) rfl rfl ?_;exact⟨U,jc,by rw[e,a,aO]⟩
  .have z:i=8:=by omega
   subst z;obtain⟨P,hP⟩:∃P,q++B=P:=⟨_,rfl⟩;have QJ:P.l=q.l+8:=by rw[<-hP];simp;omega
   have e:u=P:=by rw[a,af U,hP]
   rw[hP]at n;clear d a hP;subst e;simp;refine gU ?_;refine ik.n (by simp[x,I];rfl) ?_;rw[<-zX];refine Yc (aaO u) ?_;simp;refine sT.r (f:=274) (first:=[]) (cap:=[.ie [dU u],.ie [.i 64]]) rfl rfl rfl rfl ?_;simp;refine Wf.mono (aaR u S U U x) ?_;rintro _ H' rfl;have L:=FQ u x (u.l / 64);obtain⟨v,G⟩:∃v,sy u S (u.l / 64)=v:=⟨_,rfl⟩;rw[G]at n L ⊢;clear G;have Y:r.l=32:=by rw[<-n];exact Hv v
   have F:∀j:Int,0<=j->j<32->gt r j=aE.wrap (nV .u32 (gt v (j / 4)) (24-8*(j % 4))):=λj j0 j1=>by rw[<-n];exact R8 v j0 j1
   clear n;refine⟨[(5,.ptr 3 0 0)],.ready,gP,?_⟩;simp;refine gZ.st lO ?_;refine gZ.kg [4] ez ((0,zs 32):Int×List Int) (λy=>[(2,.ptr 0 0 0),(5,.ptr 3 0 0),(7,.ptr 5 0 0),(42,.i y.1)]) (λy=>[.row 70 0 (cl fU (zs 32)),.row 5 0 [.val (.int .u8 128)],.dead,.row 323 0 (cl fW v),.jJ,.row 70 0 (cl fU y.2)]) (λy=>(0<=y.1/\y.1<=32)/\y.2.l=32/\∀j:Int,0<=j->j<y.1->gt y.2 j=gt r j) (λy=>(32-y.1).n) ?_ gP (by first|rfl|(simp[jw];done)|(simp[*];done)) rfl rfl rfl ?_
   .exact⟨gP,gP,λj j0 j1=>absurd j1 iv⟩
   rintro⟨i,u⟩ ⟨⟨i0,o⟩,d,a⟩;dsimp only at i0 o d a ⊢
   by_cases hi:i<32
   .have c:vF i 4=i / 4:=xq i0 U U;have H:iu i 4=i % 4:=kK i0;simp[hi,c,H];refine ko c H ?_;refine LJ.i (i+1,pt u i (gt r i)) (by first|rfl|simp[F i i0 hi]) (by first|rfl|simp[F i i0 hi]) rfl rfl ?_;refine⟨U,jc,by rw[jy i0 U];exact d,λj j0 j1=>?_⟩;dsimp only at j1 ⊢;rw[mY i0 U j0]
    by_cases e:j=i
    .rw[if_pos e,e]
    .rw[if_neg e];exact a j j0 U
   .have z:i=32:=by omega
    subst z
    have e:u=r:=by refine bH U λj j0 j1=>?_;have h:=a j U U;rw[jU U U,jU U U]at h;exact h
    subst e;have O:u.take 32=u:=af U;simp[d,O]
@[irreducible] def yX(l:List Int):List D:=[dU l]
@[simp] theorem aaW(l:List Int):yX l = [dU l]:=by unfold yX;rfl
instance:Fl yX 1:=⟨λ_=>gP,λ_=>by simp[iB]⟩
@[irreducible] def rA(L:List (List Int)):D:=.sl 1 (L.map yX)
theorem F3(L:List (List Int)):rA L = .sl 1 (L.map yX):=by unfold rA;rfl
@[simp] theorem ayo(L:List (List Int)):closed (rA L)=true:=by unfold rA;exact F0 L
@[simp] theorem aAY(L:List (List Int))(H:gQ):od .slice (rA L) H=dx (.i L.l):=by unfold rA;simp
@[simp] theorem aEl(f:iM)(l:List (List Int))(lo hi:Option X):vH f 1 (rA l) lo hi=(jd f lo 0).bind λa=>(jd f hi l.l).bind λh=>if 0<=a/\a<=h/\h<=l.l then dx (rA ((l.drop a.n).take (h.n-a.n)))else none:=by unfold rA;rw[SB,eh];simp only[L7]
@[simp] theorem aBW{l:List (List Int)}{n:Int}{k:IntKind}{P:D->Prop}:oA (ot 1 (rA l) (.val (.int k n))) P .mk=((0<=n/\n<l.l)/\P (.ie [dU (gt l n)])):=by unfold rA;simp
def ZH(l:List Int)(n:Int):D.val (.int .u8 n)::cl fU l=cl fU (n::l):=by rw[oG,By];rfl
def tm(b:List Int):(lI b).l=32:=by rw[lI];exact Hv _
def aiI(b:List Int)(a:b.l<=4000000000):Wf T 210 [dU b] [] (Is (dU (0::b))):=by refine Yg Ni ?_;simp[Ni];refine gU ?_;rw[ZH];exact uX (k:=38) iz
def aiv(b:List Int)(e:b.l<=3000000000):Wf T 142 [dU b] [] (Is (.agg (cl fU (lI (0::b))))):=by have c:=aaJ (0::b) iz;have hl:=tm (0::b);obtain⟨r,d⟩:∃r,lI (0::b)=r:=⟨_,rfl⟩;rw[d]at c hl ⊢;have a:r.take 32=r:=af U;refine Yg M5 ?_;simp[M5];refine Yc (aiI b U) ?_;simp;refine Yc (c) ?_;simp[hl,a]
def aiJ(a b:List Int)(f:a.l=32)(e:b.l=32):Wf T 211 [.agg (cl fU a),.agg (cl fU b)] [] (Is (dU (1::(a++b)))):=by have c:a.take 32=a:=af U;have d:b.take 32=b:=af U;refine Yg Nj ?_;simp[Nj];refine pM f e c d ?_;rw[ZH,c,c,d];exact uX (k:=38) iz
def aix(a b:List Int)(g:a.l=32)(f:b.l=32):Wf T 144 [.agg (cl fU a),.agg (cl fU b)] [] (Is (.agg (cl fU (lI (1::(a++b)))))):=by have c:=aaJ (1::(a++b)) iz;have hl:=tm (1::(a++b));obtain⟨r,i⟩:∃r,lI (1::(a++b))=r:=⟨_,rfl⟩;rw[i]at c hl ⊢;have h:r.take 32=r:=af U;have e:a.take 32=a:=af U;have d:b.take 32=b:=af U;refine Yg M6 ?_;simp[M6,g,f,e,d];refine Yc (aiJ a b g f) ?_;simp[e,d];refine Yc (c) ?_;simp[hl,h]
def rI(r:Option (List (D×gQ))):Option Int:=match r with
 | some [(.val (.int .i64 n),[])]=>dx n
 | _=>fp
def ad4{r:Option (List (D×gQ))}{n:Int}(h:rI r=dx n):r=dx [(.i n,[])]:=by
 unfold rI at h;split at h
 .cases h;rfl
 .cases h
def ahd:(fx 65).all (λn=>Nat.ble n 1||decide (rI (run T [] 40 143 [.i n] [])=dx (uU n)))=true:=ia
def aiw(n:Nat)(h0:2<=n)(h1:n<=64):Wf T 143 [.i n] [] (Is (.i (uU n))):=by
 have h:=ahd;rw[fa]at h;have h:=h n (aZ.2 U);rw[bM,decide_eq_true_eq]at h;rcases h with h|h
 .exact absurd (dC h) U
 .exact rn (ad4 h)
def Z4{n:Nat}(h:2<=n):1<=uU n/\uU n<n:=by unfold uU;have h1:=Nat.log2_self_le (n:=n-1) U;have a:0<2 ^ (Nat.log2 (n-1)):=Nat.pow_pos jo;omega
def aet(k:Nat):ql (k+1) []=lI []:=by rw[ql,HM]
def W9(k:Nat)(x:List Int):ql (k+1) [x]=lI (0::x):=by rw[ql,HM]
def Xa(k:Nat){l:List (List Int)}(h:2<=l.l):ql (k+1) l=lI (1::(ql k (l.take (uU l.l))++ql k (l.drop (uU l.l)))):=by
 match l,h with
 | a::b::r,_=>rw[ql,ql,ql,HM]<;>simp
def LP{k:Nat}{l:List (List Int)}(h:l.l<k):(ql k l).l=32:=by
 match k,l with
 | 0,_=>omega
 | k+1,[]=>rw[aet];exact tm _
 | k+1,[x]=>rw[W9];exact tm _
 | k+1,a::b::r=>rw[Xa k gP];exact tm _
theorem TU:∀(k:Nat) (l:List (List Int)),l.l<k->0<l.l->l.l<=64->(∀x∈l,x.l<=3000000000)->Wf T 88 [rA l] [] (Is (.agg (cl fU (ql k l))))
 | 0,l,h,_,_,_=>U
 | k+1,l,hk,h0,Aa,hx=>by
  by_cases h1:l.l=1
  .obtain⟨x,rfl⟩:∃x,l = [x]:=by
    match l,h1 with
    | [x],_=>exact⟨x,rfl⟩
   rw[W9];have c:=aiv x (hx x gP);have hl:=tm (0::x);obtain⟨r,b⟩:∃r,lI (0::x)=r:=⟨_,rfl⟩;rw[b]at c hl ⊢;have a:r.take 32=r:=af U;refine Yg A8 ?_;simp[A8];refine Yc (c) ?_;simp[hl,a]
  .have o:=Z4 (n:=l.l) U;have cm:=aiw l.l U Aa;rw[Xa k U];obtain⟨m,j⟩:∃m,uU l.l=m:=⟨_,rfl⟩;rw[j]at o cm ⊢;have t:(l.take m).l=m:=by rw[aM];omega
   have u:(l.drop m).l=l.l-m:=by rw[aU]
   have i:=TU k (l.take m) U U U λx h=>hx x (aQ h);have g:=TU k (l.drop m) U U U λx h=>hx x (bO h);have e:=LP (k:=k) (l:=l.take m) U;have d:=LP (k:=k) (l:=l.drop m) U;obtain⟨A,q⟩:∃A,ql k (l.take m)=A:=⟨_,rfl⟩;obtain⟨B,p⟩:∃B,ql k (l.drop m)=B:=⟨_,rfl⟩;rw[q]at i e ⊢;rw[p]at g d ⊢;have f:=aix A B e d;have hl:=tm (1::(A++B));obtain⟨r,b⟩:∃r,lI (1::(A++B))=r:=⟨_,rfl⟩;rw[b]at f hl ⊢;have a:r.take 32=r:=af U;have n0:¬l.l=0:=U;have s:(l.drop m).take (l.l-m)=l.drop m:=af U;refine Yg A8 ?_;simp[A8,n0,h1];(with_reducible repeat' first|refine Xk ?_<;>try simp|refine Xs ?_ ?_<;>intro h<;>(try intro v)<;>(try simp[h])<;>try omega|refine Xg ?_|omega);refine Yc (cm) ?_;simp;refine gU ?_;refine Yt (i) ?_;simp;refine jM s ?_;refine Yt (g) ?_;simp;refine Yt (f) ?_;simp[hl,a]
def H9{α:Type}[Inhabited α]{l:List α}{i:Int}(i0:0<=i)(a:i<l.l):l.take (i+1).n=l.take i.n ++ [gt l i]:=by rw[(U:(i+1).n=i.n+1),du,bf U,dB,<-jU i0 a]
def aiV(n:Nat)(h0:0<n)(a:n<=4000000000):Wf T 277 [.gV,.i n] [] λd H=>d = .gR 0 0 1 0 0/\H = [.row 5 0 (cl fU (zs n))]:=by refine Yg Nw ?_;simp[Nw];(with_reducible repeat' first|refine Xk ?_<;>try simp|refine Xs ?_ ?_<;>intro h<;>(try intro b)<;>(try simp[h])<;>try omega|refine Xg ?_|omega);rw[<-Bo,xy,fH]
def aaP(L:List (List Int))(hl:0<L.l)(u:L.l<=1000)(n:Nat)(m:n=L.flatten.l)(h0:0<n)(t:n<=4000000000):Wf T 224 [rA L] [] λd H=>d = .gR 0 L.l 1 0 n/\H = [.row 5 L.l (cl fU L.flatten)]:=by
 have b:∀i:Nat,(L.take i).flatten.l<=n:=λi=>by
  have:L.flatten=(L.take i).flatten++(L.drop i).flatten:=by rw[<-eo,cj]
  rw[m,this,aq];omega
 refine Yg Nn ?_;simp[Nn];refine gZ.e (0:Int) (λy=>[(0,rA L),(3,.i (((L.take y.n).flatten.l:Nat):Int)),(9,rA L),(10,.i L.l),(11,.i y)]) (λy=>[]) (λy=>0<=y/\y<=L.l) (λy=>(L.l-y).n) ?_ ?_
 .simp
 rintro i ⟨i0,q⟩;have c:=b i.n
 by_cases hi:i<L.l
 .have e:=H9 (l:=L) i0 hi;have p:=b (i+1).n;have e2:(L.take (i+1).n).flatten.l=(L.take i.n).flatten.l+(gt L i).l:=by rw[e];simp
  simp only[hi];generalize (L.take i.n).flatten.l=a at *;simp[hi];(with_reducible repeat' first|refine Xk ?_<;>try simp|refine Xs ?_ ?_<;>intro h<;>(try intro v)<;>(try simp[h])<;>try omega|refine Xg ?_|omega);refine LJ.i (i+1) (by first|rfl|simp[e2]) (by first|rfl|simp[e2]) rfl rfl ?_;omega
 .have k:i=L.l:=by omega
  subst k;have r:L.take (L.l:Int).n=L:=af U;rw[r,<-m];simp;refine Yn (aiV n h0 t) ?_;simp;refine gZ.e ((0,zs n):Int×List Int) (λy=>[(6,.gR 0 y.1.n 1 0 (L.take y.1.n).flatten.l),(25,rA L),(26,.i L.l),(27,.i y.1)]) (λy=>[.row 5 y.1.n (cl fU y.2)]) (λy=>(0<=y.1/\y.1<=L.l)/\(y.1=0\/y.2=(L.take y.1.n).flatten)) (λy=>(L.l-y.1).n) ?_ ?_
  .simp
  rintro⟨i,R⟩ ⟨⟨i0,q⟩,o⟩;dsimp only at i0 q o ⊢;have c:=b i.n
  by_cases hi:i<L.l
  .have e:=H9 (l:=L) i0 hi;have p:=b (i+1).n;have e2:(L.take (i+1).n).flatten=(L.take i.n).flatten++gt L i:=by rw[e];simp
   have f:R.take (L.take i.n).flatten.l=(L.take i.n).flatten:=kM;have j:(L.take i.n).flatten.l<=R.l:=kM;have g:(L.take (i+1).n).flatten.l=(L.take i.n).flatten.l+(gt L i).l:=by rw[e2,aq]
   rw[(U:(i+1).n=i.n+1)]at p e2 g;obtain⟨a,s⟩:∃a,(L.take i.n).flatten=a:=⟨_,rfl⟩;rw[s]at c f j g e2 ⊢;simp[hi,j,f];refine ko j f ?_;refine LJ.i (i+1,a++gt L i) (by first|rfl|simp[-eK,g,e2,f,(U:(i+1).n=i.n+1)]) (by first|rfl|simp[-eK,g,e2,f,(U:(i+1).n=i.n+1)]) rfl rfl ?_;exact⟨U,jc,.inr (by rw[(U:(i+1).n=i.n+1)];exact e2.symm)⟩
  .have k:i=L.l:=by omega
   subst k;rw[r]at o ⊢;rcases o with h|rfl
   .omega
   simp[<-m]
def aiB:(fx 65).all (λn=>Nat.ble n 1||decide (rI (run T [] 40 157 [.i n] [])=dx (uU n)))=true:=ia
def aiA(n:Nat)(h0:2<=n)(h1:n<=64):Wf T 157 [.i n] [] (Is (.i (uU n))):=by
 have h:=aiB;rw[fa]at h;have h:=h n (aZ.2 U);rw[bM,decide_eq_true_eq]at h;rcases h with h|h
 .exact absurd (dC h) U
 .exact rn (ad4 h)
@[simp] theorem azf(l:List Int):w7 (cl fU l)=true:=by
 rw[<-Bo]
 induction l with
 | nil=>rfl
 | cons a r b=>exact b
def Ud(ρ:Nat->Option Nat)(H:gQ)(k t:Nat)(a:D):oq ρ H k 1 0 1 (dx (t,[a])) = .sl 1 [[ib ρ H k a]]:=pK
def abo(ρ:Nat->Option Nat)(H:gQ)(k t:Nat)(a b:D):oq ρ H k 1 0 2 (dx (t,[a,b])) = .sl 1 [[ib ρ H k a],[ib ρ H k b]]:=by unfold oq;simp[chunks]
def abp(ρ:Nat->Option Nat)(H:gQ)(k t:Nat)(a b c:D):oq ρ H k 1 0 3 (dx (t,[a,b,c])) = .sl 1 [[ib ρ H k a],[ib ρ H k b],[ib ρ H k c]]:=by unfold oq;simp[chunks]
def aiz(b:List Int)(f:b.l<=3000000000):Wf T 156 [dU b] [] (Is (.agg (cl fU (lI (0::b))))):=by have c:=aaK (0::b) iz;have a:=aaP [[0],b] gP gP (b.l+1) gP U U;have hl:=tm (0::b);obtain⟨r,e⟩:∃r,lI (0::b)=r:=⟨_,rfl⟩;rw[e]at c hl ⊢;have d:r.take 32=r:=af U;rw[(gP:[[0],b].flatten=0::b)]at a;refine Yg M7 ?_;simp[M7];refine ik.nr rfl rfl a (by simp[F3,zX,Ud,abo,abp]) gP gP ?_;simp;refine ik.r rfl rfl c (by simp[zX]) (by simp[flat]) gP ?_;simp[hl,d]
def rX.r{T:jt}{f:FuncId}{fn:kn}{args qt:List D}{dst:Option Nat}{s:St}{R:List Fp}{Q:Rc->St->Prop}{d:D}{ob:Ob}(b:T.fn f=dx fn)(a:fn.full=ez)(h:Wf T f qt [] λd' H'=>d'=d/\H' = [ob])
  (hs:args.map (ib (λ_=>fp) s.H 40)=qt) (e:(rl d&&r8 ob)=fb) (c:(oC d&&pP ob)=fb) (k:Q ⟨R,[(s.H.l,fp)]⟩ { s with env:=put s.env dst (lL s.H.l d),H:=s.H ++ [ob] }):wW T f args R dst s Q .mk:=
 .inl (.inr ⟨fn,d,ob,b,a,by rw[hs];exact h,by split<;>assumption,k⟩)
def aiC(a b:List Int)(e:a.l=32)(d:b.l=32):Wf T 158 [.agg (cl fU a),.agg (cl fU b)] [] (Is (.agg (cl fU (lI (1::(a++b)))))):=by have c:=aaK (1::(a++b)) iz;have f:=aaP [[1],a,b] gP gP 65 iz U U;rw[(gP:[[1],a,b].flatten=1::(a++b))]at f;have hl:=tm (1::(a++b));obtain⟨r,j⟩:∃r,lI (1::(a++b))=r:=⟨_,rfl⟩;rw[j]at c hl ⊢;have i:r.take 32=r:=af U;have h:a.take 32=a:=af U;have g:b.take 32=b:=af U;refine Yg M8 ?_;simp[M8,e,d,h,g];refine rX.r rfl rfl f (by simp[F3,zX,Ud,abo,abp,e,d]) gP gP ?_;simp;refine ke.r rfl rfl c (by simp only[eL,List.map_nil,AL.EZ,LX];simp only[aeu];simp;rw[uX (k:=38) iz];rfl) (by simp[flat]) gP ?_;simp[hl,i]
theorem TV:∀(k:Nat) (l:List (List Int)),l.l<k->0<l.l->l.l<=64->(∀x∈l,x.l<=3000000000)->Wf T 97 [rA l] [] (Is (.agg (cl fU (ql k l))))
 | 0,l,h,_,_,_=>U
 | k+1,l,hk,h0,Aa,hx=>by
  by_cases h1:l.l=1
  .obtain⟨x,rfl⟩:∃x,l = [x]:=by
    match l,h1 with
    | [x],_=>exact⟨x,rfl⟩
   rw[W9];have c:=aiz x (hx x gP);have hl:=tm (0::x);obtain⟨r,b⟩:∃r,lI (0::x)=r:=⟨_,rfl⟩;rw[b]at c hl ⊢;have a:r.take 32=r:=af U;refine Yg A9 ?_;simp[A9];refine Yc (c) ?_;simp[hl,a]
  .have o:=Z4 (n:=l.l) U;have cm:=aiA l.l U Aa;rw[Xa k U];obtain⟨m,j⟩:∃m,uU l.l=m:=⟨_,rfl⟩;rw[j]at o cm ⊢;have t:(l.take m).l=m:=by rw[aM];omega
   have u:(l.drop m).l=l.l-m:=by rw[aU]
   have i:=TV k (l.take m) U U U λx h=>hx x (aQ h);have g:=TV k (l.drop m) U U U λx h=>hx x (bO h);have e:=LP (k:=k) (l:=l.take m) U;have d:=LP (k:=k) (l:=l.drop m) U;obtain⟨A,q⟩:∃A,ql k (l.take m)=A:=⟨_,rfl⟩;obtain⟨B,p⟩:∃B,ql k (l.drop m)=B:=⟨_,rfl⟩;rw[q]at i e ⊢;rw[p]at g d ⊢;have f:=aiC A B e d;have hl:=tm (1::(A++B));obtain⟨r,b⟩:∃r,lI (1::(A++B))=r:=⟨_,rfl⟩;rw[b]at f hl ⊢;have a:r.take 32=r:=af U;have n0:¬l.l=0:=U;have s:(l.drop m).take (l.l-m)=l.drop m:=af U;refine Yg A9 ?_;simp[A9,n0,h1];(with_reducible repeat' first|refine Xk ?_<;>try simp|refine Xs ?_ ?_<;>intro h<;>(try intro v)<;>(try simp[h])<;>try omega|refine Xg ?_|omega);refine Yc (cm) ?_;simp;refine gU ?_;refine Yt (i) ?_;simp;refine jM s ?_;refine Yt (g) ?_;simp;refine Yt (f) ?_;simp[hl,a]
@[irreducible] def lN(v:List gT):List Int:=ql (v.l+1) (v.map tD)
theorem AR(v:List gT):(lN v).l=32:=by rw[lN];exact LP gP
def Zs(r:gT):(tD r).l=5:=rfl
def Xp(a:Int):nV .i64 a 0=a:=by show a.fdiv (2 ^ (min (0:Int).n 64))=a;simp
def aih(r:gT):Wf T 87 [.agg [.i r.1,.i r.2]] [] (Is (dU (tD r))):=by refine Yg MO ?_;simp[MO];unfold oq;simp[chunks,zX,tD,Xp]
def aii(r:gT):Wf T 96 [.agg [.i r.1,.i r.2]] [] (Is (dU (tD r))):=by refine Yg MQ ?_;simp[MQ];refine gZ.un ?_;refine kT.u ?_;simp;refine kT.s lO ?_;refine kT.u ?_;simp;refine kT.s lO ?_;refine kT.u ?_;simp;refine kT.s lO ?_;refine kT.u ?_;simp;refine kT.s lO ?_;refine kT.u ?_;simp[Xp];unfold oq;simp[chunks,zX,tD,Xp]
def ZF(x:List Int) : [dU x]=cl yX [x]:=by rw[jw,aaW]
@[simp] theorem agA(l:List (List Int))(x:List Int):cl yX l ++ [dU x]=cl yX (l ++ [x]):=by rw[<-tE,aaW]
theorem aaF(v:List gT)(h0:0<v.l)(s:v.l<=64):Wf T 49 [iS v] [] (Is (.agg (cl fU (lN v)))):=by
 have c:Wf T 97 [rA (v.map tD)] [] (Is (.agg (cl fU (lN v)))):=by
  have:=TV (v.l+1) (v.map tD) gP (by simpa using h0) (by simpa using s) λx p=>by obtain⟨r,_,rfl⟩:=aj.1 p;rw[Zs];omega
  rw[lN];exact this
 have hl:=AR v;obtain⟨r,q⟩:∃r,lN v=r:=⟨_,rfl⟩;rw[q]at c hl ⊢;have k:r.take 32=r:=af U;refine Yg A7 ?_;simp[A7];refine gZ.e ((0,[]):Int×List (List Int)) (λy=>[(2,.ptr 0 0 0),(3,if y.2 = []then .gV else .gR 1 (y.2.l-1) 1 0 y.2.l),(6,iS v),(7,.i v.l),(8,.i y.1)]) (λy=>.row 70 0 (cl fU (zs 32))::(if y.2 = []then []else [.row 22 (y.2.l-1) (cl yX y.2)])) (λy=>(0<=y.1/\y.1<=v.l)/\y.2=(v.take y.1.n).map tD) (λy=>(v.l-y.1).n) ?_ ?_
 .simp
 rintro⟨i,A⟩ ⟨⟨i0,n⟩,d⟩;dsimp only at i0 n d ⊢;have g:A.l=i.n:=by rw[d];simp;omega
 by_cases hi:i<v.l
 .have e:=H9 (l:=v) i0 hi;have f:=aii (gt v i);obtain⟨b,j⟩:∃b,tD (gt v i)=b:=⟨_,rfl⟩;rw[j]at f;have h:A ++ [b]=(v.take (i+1).n).map tD:=by rw[e,er,<-d,<-j];rfl
  by_cases a:A = []
  .subst a;simp[hi];refine gU ?_;refine Yc (f) ?_;simp;refine gU ?_;refine LJ.i (i+1,[b]) (by first|rfl|simp[ZF]) (by first|rfl|simp[ZF]) rfl rfl ?_;exact⟨U,jc,h⟩
  .have o:0<A.l:=ay.2 a;rw[if_neg a,if_neg a];simp[hi];refine gU ?_;refine Yc (f) ?_;simp;refine gU ?_;refine LJ.i (i+1,A ++ [b]) (by first|rfl|simp[(U:A.l-1+1=A.l)]) (by first|rfl|simp[(U:A.l-1+1=A.l)]) rfl rfl ?_;exact⟨U,jc,h⟩
 .have m:i=v.l:=by omega
  subst m;rw[af U]at d;have a:A≠[]:=λe=>by rw[e]at g;simp at g;omega
  rw[<-d]at c;rw[if_neg a,if_neg a];simp[hi];refine gU ?_;refine ik.r rfl rfl c (by simp[F3]) (by simp[flat]) gP ?_;simp[hl,k]
def aaE(v:List gT)(h0:0<v.l)(o:v.l<=64):Wf T 41 [iS v] [] (Is (.agg (cl fU (lN v)))):=by
 have c:Wf T 88 [rA (v.map tD)] [] (Is (.agg (cl fU (lN v)))):=by
  have:=TU (v.l+1) (v.map tD) gP (by simpa using h0) (by simpa using o) λx k=>by obtain⟨r,_,rfl⟩:=aj.1 k;rw[Zs];omega
  rw[lN];exact this
 have hl:=AR v;obtain⟨r,m⟩:∃r,lN v=r:=⟨_,rfl⟩;rw[m]at c hl ⊢;have g:r.take 32=r:=af U;refine Yg A6 ?_;simp[A6];refine gZ.e ((0,[]):Int×List (List Int)) (λy=>[(0,iS v),(2,.ptr 0 0 0),(3,.gR 1 y.2.l 1 0 y.2.l),(4,.i y.1)]) (λy=>[.row 70 0 (cl fU (zs 32)),.row 22 y.2.l (cl yX y.2)]) (λy=>(0<=y.1/\y.1<=v.l)/\y.2=(v.take y.1.n).map tD) (λy=>(v.l-y.1).n) ?_ ?_
 .simp
 rintro⟨i,A⟩ ⟨⟨i0,j⟩,a⟩;dsimp only at i0 j a ⊢;have p:A.l=i.n:=by rw[a];simp;omega
 by_cases hi:i<v.l
 .have e:=H9 (l:=v) i0 hi;have f:=aih (gt v i);obtain⟨b,d⟩:∃b,tD (gt v i)=b:=⟨_,rfl⟩;rw[d]at f;have n:A ++ [b]=(v.take (i+1).n).map tD:=by rw[e,er,<-a,<-d];rfl
  simp[hi];refine gU ?_;refine Yc (f) ?_;simp;refine gU ?_;refine LJ.e (i+1,A ++ [b]) ?_;exact⟨U,jc,n⟩
 .have h:i=v.l:=by omega
  subst h;rw[af U]at a;rw[<-a]at c;simp[hi];refine gU ?_;refine ik.r rfl rfl c (by simp[F3]) (by simp[flat]) gP ?_;simp[hl,g]
def aaB{f:FuncId}{args:List D}{d:D}(h:Wf T f args [] (Is d)):Ev T (.call f args []) (lP [(d,[])]):=by refine Ev.mono h λr a=>?_;obtain⟨d',H',a,rfl,rfl⟩:=a;exact⟨_,ep.2 rfl,a⟩
def Qf(v:List gT)(b:List Int){a d:D}(f:a=iS v)(c:d = .agg (b.map λn=>.val (.int .u8 n)))(e:lN v=b)(h0:0<v.l)(g:v.l<=64):Ev T (.call 49 [a] []) (lP [(d,[])]):=by subst f c;rw[Bo,<-e];exact aaB (aaF v h0 g)
def TR(v:List gT)(b:List Int){a d:D}(f:a=iS v)(c:d = .agg (b.map λn=>.val (.int .u8 n)))(e:lN v=b)(h0:0<v.l)(g:v.l<=64):Ev T (.call 41 [a] []) (lP [(d,[])]):=by subst f c;rw[Bo,<-e];exact aaB (aaE v h0 g)
