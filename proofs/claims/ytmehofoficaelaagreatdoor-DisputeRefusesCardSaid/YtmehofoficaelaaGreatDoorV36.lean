/- 36 -/
import Derived.Test.YtmehofoficaelaaGreatDoorV35
set_option linter.all false
open Go.IntKind renaming u8→aE,u64→bs,u32→b4
open List renaming getElem?_eq_getElem→bb,length_map→cc,getD_eq_getElem?_getD→cp,zipWith→di,replicate→dx,length_zipWith→eh,length_flatten→ek,all_eq_true→en,map_cons→ep,range→er,length→List.l
open Option renaming some→dr
open Int renaming toNat→Int.n
namespace Go.Proofs.YtmehofoficaelaaGreatDoor
open Go Go.AL Classical
set_option maxRecDepth 10000
set_option maxHeartbeats 8000000
def ad5(g:gq)(hg:gR g)(l:List Pos)(b:lZ g l)(h0:0<l.l)(a:l.l<=80):Wf T 75 [dG g,gP (l ++ [gt l (l.l-1)]),.any] [] (Is (.tup [.agg [.i 0,.gi],.i 70])):=by have c:=Qp g hg l b h0 a;generalize l ++ [gt l (l.l-1)]=l2 at *;refine Yg C1 ?_;simp[C1];refine gy.inl sR rfl rfl (by simp[sR]) rfl ?_;simp[sR];refine Yc (c) ?_;simp
def adP(g:gq)(hg:gR g)(l:List Pos)(b:lZ g l)(h0:0<l.l)(a:l.l<=80):Wf T 30 [dG g,gP (l ++ [gt l (l.l-1)]),.any] [] (Is (.agg [.i 0,.gi,.i 70])):=by have c:=ad5 g hg l b h0 a;generalize l ++ [gt l (l.l-1)]=l2 at *;refine Yg wG ?_;simp[wG];refine Yc (c) ?_;simp
def adJ(g:gq)(hg:gR g)(l:List Pos)(b:lZ g l)(h0:0<l.l)(a:l.l<=80):Wf T 20 [dG g,gP (l ++ [gt l (l.l-1)]),.any] [] (Is (.tup [.gi,.gi,.i 70])):=by have c:=Qp g hg l b h0 a;generalize l ++ [gt l (l.l-1)]=l2 at *;refine Yg CZ ?_;simp[CZ];refine gy.inl sR rfl rfl (by simp[sR]) rfl ?_;simp[sR];refine Yc (c) ?_;simp
def adS(g:gq)(hg:gR g)(l:List Pos)(b:lZ g l)(h0:0<l.l)(a:l.l<=80):Wf T 33 [dG g,gP (l ++ [gt l (l.l-1)]),.any] [] (Is (.agg [.gi,.gi,.i 70])):=by have c:=adJ g hg l b h0 a;generalize l ++ [gt l (l.l-1)]=l2 at *;refine Yg za ?_;simp[za];refine Yc (c) ?_;simp
def ad8(g:gq)(hg:gR g)(l:List Pos)(b:lZ g l)(h0:0<l.l)(a:l.l<=80)(v:List gg)(i:Int):Wf T 81 [dG g,gP (l ++ [gt l (l.l-1)]),iw v,.i i] [] (Is (.tup [.b false,.i 70])):=by have c:=Qp g hg l b h0 a;generalize l ++ [gt l (l.l-1)]=l2 at *;refine Yg wK ?_;simp[wK];refine Yc (c) ?_;simp
def adT(g:gq)(hg:gR g)(l:List Pos)(b:lZ g l)(h0:0<l.l)(a:l.l<=80)(v:List gg)(i:Int):Wf T 37 [dG g,gP (l ++ [gt l (l.l-1)]),iw v,.i i] [] (Is (.agg [.b false,.i 70])):=by have c:=ad8 g hg l b h0 a v i;generalize l ++ [gt l (l.l-1)]=l2 at *;refine Yg wH ?_;simp[wH];refine Yc (c) ?_;simp
def nrm(k:St->Prop):jb:=λo=>match o with
 | .norm s=>k s
 | _=>False
@[simp] theorem awf(k:St->Prop)(s:St):nrm k (.norm s)=k s:=rfl
theorem Wf.any{f:FuncId}{args:List D}{fn:jq}{a b:IR}{t:Nat}(n:T.fn f=dr fn)(hl:args.l<=fn.ntmps)(o:fn.body = .seq a (.seq b .ret))(m:fn.results = [.tmp t])
  (h:XC T a { env:=ti args,H:=[] } (nrm λs1=>XC T b s1 (nrm λk=>k.marks = []))) (l:lx a=a) (d:lx b=b):Wf T f args [] (Is .any):=by
 refine Wf.call 0 n hl ?_;rw[o];have j:=XC.wc h;rw[l]at j;refine Wc.seq (j.mono ?_);rintro(s|_|s) i<;>try exact i.elim
 have g:=XC.wc i;rw[d]at g;refine ZV (Wc.seq (g.mono ?_));rintro(s|_|s) c<;>try exact c.elim
 have c:s.marks = []:=c;refine ZV (Ev.DM [] (Ev.ret ⟨_,rfl,.any,[],?_,rfl,rfl⟩))
 have e:leave 0 0 s.H .any=(.any,[]):=by
  unfold leave
  by_cases h:s.H.l<=0
  .rw[if_pos (.inl h),aA.1 (Nat.le_zero.1 h)]
  .rw[if_neg (by rintro(p|p)<;>omega)];rfl
 simp[finish,c,kill,AL.results,m,um,Ct,forget,Env.get,e]
end Go.Proofs.YtmehofoficaelaaGreatDoor
namespace Go.Proofs.YtmehofoficaelaaGreatDoor
open Go Go.AL
def Ao:List Int:=[1116352408,1899447441,3049323471,3921009573,961987163,1508970993,2453635748,2870763221,3624381080,310598401,607225278,1426881987,1925078388,2162078206,2614888103,3248222580,3835390401,4022224774,264347078,604807628,770255983,1249150122,1555081692,1996064986,2554220882,2821834349,2952996808,3210313671,3336571891,3584528711,113926993,338241895,666307205,773529912,1294757372,1396182291,1695183700,1986661051,2177026350,2456956037,2730485921,2820302411,3259730800,3345764771,3516065817,3600352804,4094571909,275423344,430227734,506948616,659060556,883997877,958139571,1322822218,1537002063,1747873779,1955562222,2024104815,2227730452,2361852424,2428436474,2756734187,3204031479,3329325298]
def By:List Int:=[1779033703,3144134277,1013904242,2773480762,1359893119,2600822924,528734635,1541459225]
def tn(n x:Int):Int:=bits .or .u32 (mG .u32 x n) (yW .u32 x (32-n))
def xr(a b:Int):Int:=bits .xor .u32 a b
def ad(a b:Int):Int:=b4.wrap (a+b)
def mx(x a b c:Int):Int:=xr (xr (tn a x) (tn b x)) (tn c x)
def wp(w:List Int)(n:Nat)(b:Int):List Int:=pt w (n / 4:Nat) (bits .or .u32 (yW .u32 (gt w (n / 4:Nat)) 8) b)
def Pz(b:List Int):Nat->List Int
 | 0=>dx 64 0
 | n+1=>wp (Pz b n) n (b4.wrap (gt b n))
@[irreducible] def w1(b:List Int)(n:Nat):List Int:=Pz b n
def wn(w:List Int)(t:Nat):List Int:=pt w t (ad (ad (ad (gt w (t-16:Nat)) (gt w (t-7:Nat))) (xr (xr (tn 7 (gt w (t-15:Nat))) (tn 18 (gt w (t-15:Nat)))) (mG .u32 (gt w (t-15:Nat)) 3)))
 (xr (xr (tn 17 (gt w (t-2:Nat))) (tn 19 (gt w (t-2:Nat)))) (mG .u32 (gt w (t-2:Nat)) 10)))
def PA(w:List Int):Nat->List Int
 | 0=>w
 | m+1=>wn (PA w m) (m+16)
@[irreducible] def w2(w:List Int)(n:Nat):List Int:=PA w n
@[irreducible] def u9(b:List Int):List Int:=w2 (w1 b 64) 48
def AF(c:List Int)(k w:Int):List Int:=match c with
 | [c0,c1,c2,c3,c4,c5,c6,c7]=>
  let x:=ad (ad (ad (ad c7 (mx c4 6 11 25)) (xr (bits .and .u32 c4 c5) (bits .and .u32 (bits .xor .u32 b4.max c4) c6))) k) w
  let y:=ad (mx c0 2 13 22) (xr (xr (bits .and .u32 c0 c1) (bits .and .u32 c0 c2)) (bits .and .u32 c1 c2))
  [ad x y,c0,c1,c2,ad c3 x,c4,c5,c6]
 | _=>[]
def OT(w c:List Int):Nat->List Int
 | 0=>c
 | n+1=>AF (OT w c n) (gt Ao n) (gt w n)
@[irreducible] def se(w c:List Int)(n:Nat):List Int:=OT w c n
@[irreducible] def tw(s b:List Int):List Int:=di ad (se (u9 b) s 64) s
def Mp(b:List Int)(s:List Int):Nat->List Int
 | 0=>s
 | n+1=>tw (Mp b s n) ((b.drop (64*n)).take 64)
@[irreducible] def qb(b s:List Int)(n:Nat):List Int:=Mp b s n
def AD(n:Nat):Nat:=63-(n+8) % 64
def xS(n:Int):List Int:=[56,48,40,32,24,16,8,0].map λs:Int=>aE.wrap (mG .u64 n s)
@[irreducible] def pad(b:List Int):List Int:=b++128::(dx (AD b.l) 0++xS (8*b.l))
@[irreducible] def yS(s:List Int):List Int:=(upto 32).map λi=>aE.wrap (mG .u32 (gt s (i / 4)) (24-8*(i % 4)))
@[irreducible] def kH(b:List Int):List Int:=yS (qb (pad b) By ((pad b).l / 64))
def s5(n:Nat):Nat:=2 ^ (Nat.log2 (n-1))
def E6:Nat->List (List Int)->List Int
 | 0,_=>[]
 | _+1,[]=>kH []
 | _+1,[x]=>kH (0::x)
 | k+1,l=>kH (1::(E6 k (l.take (s5 l.l))++E6 k (l.drop (s5 l.l))))
@[irreducible] def oS(k:Nat)(l:List (List Int)):List Int:=E6 k l
def rM(r:gg):List Int:=aE.wrap r.1 :: [24,16,8,0].map λs:Int=>aE.wrap (mG .i64 r.2 s)
end Go.Proofs.YtmehofoficaelaaGreatDoor
namespace Go.AL
open Go
@[irreducible] def fW(n:Int):List D:=[.val (.int .u32 n)]
@[simp] theorem Wy(n:Int):fW n = [.val (.int .u32 n)]:=by unfold fW;rfl
instance:Fl fW 1:=⟨λ_=>fZ,λ_=>by simp[gK]⟩
@[simp] theorem awp{l:List Int}{n:Int}{P:D->Prop}:oA (cl fW l)[n.n]? P .mk=(n.n<l.l/\P (.val (.int .u32 (gt l n)))):=by have:=MF (f:=fW) (l:=l) (n:=n) (j:=0) jh (P:=P);simpa using this
def Dx(l:List Int):(l.map λn=>D.val (.int .u32 n))=cl fW l:=by
 rw[oV]
 induction l with
 | nil=>rfl
 | cons a r b=>simp[b]
def zx(l:List Int):(l.map λn=>D.val (.int .u8 n))=cl fU l:=by
 rw[oV]
 induction l with
 | nil=>rfl
 | cons a r b=>simp[b]
@[irreducible] def zs(n:Nat):List Int:=dx n 0
theorem vb(n:Nat):zs n=dx n 0:=by unfold zs;rfl
@[simp] theorem azX(n:Nat):(zs n).l=n:=by rw[vb,eD]
@[simp] theorem azW(n:Nat):(zs n).drop n = []:=bQ fZ
theorem gx.st{T:iF}{live:List Nat}{a:IR}{s b:St}{K:jb}(hs:s=b)(h:gx T live a b K .mk):gx T live a s K .mk:=by subst hs;exact h
@[simp] theorem aq0(n:Nat):Zw n=cl fW (zs n):=by rw[<-Dx,vb,eV];rfl
@[simp] theorem aqZ(n:Nat):Zb n=cl fU (zs n):=by rw[<-zx,vb,eV];rfl
@[simp] theorem asG(a b:List Int)(n:Int):cl fW a ++ .val (.int .u32 n)::cl fW b=cl fW (a++n::b):=by rw[<-Ba,nb,Wy];rfl
@[simp] theorem acC(l:List Int)(n:Int):cl fU l ++ [.val (.int .u8 n)]=cl fU (l ++ [n]):=by rw[<-qc,zG]
@[simp] theorem ahS{l:List Int}{n:Int}{P:D->Prop}:oA (cl fU l)[n.n]? P .mk=(n.n<l.l/\P (.val (.int .u8 (gt l n)))):=by have:=MF (f:=fU) (l:=l) (n:=n) (j:=0) jh (P:=P);simpa using this
@[simp] theorem ard(a b:Int):kc .add .u32 a b=dr (.val (.int .u32 (Proofs.YtmehofoficaelaaGreatDoor.ad a b))):=rfl
@[simp high] theorem avj(n:Nat)(t:TypeId)(l:List Int):uX n 0 (dr (t,cl fW l))=if n<=l.l then dr (.agg (cl fW (l.take n)))else none:=n9
@[simp high] theorem avi(n:Nat)(t:TypeId)(l:List Int):uX n 0 (dr (t,cl fU l))=if n<=l.l then dr (.agg (cl fU (l.take n)))else none:=n9
@[simp] theorem arZ(t:TypeId)(m:Int)(n:Nat):sY t (.val (.int .u32 m)) n=dr (.ptr n 0 0,.new (.row t 0 [.val (.int .u32 m)])):=rfl
@[simp] theorem ath(sz v g off len:Nat)(y:D)(H:gd):zC sz (.gf v g sz off len) y H=(lu sz H y).bind λq=>(rowAt H v g).bind λr=>if (off+len)*sz<=r.2.l then dr (.i (min q.2 len:Nat),.obj v (.row r.1 g (r.2.take (off*sz)++q.1.take (min q.2 len*sz)++r.2.drop (off*sz+min q.2 len*sz))))else none:=by
 simp only[zC]
 cases lu sz H y with
 | none=>rfl
 | some q=>
  dsimp only
  cases rowAt H v g with
  | none=>rfl
  | some p=>simp
def cB(l:List Int):D:=.kW (l.map λn=>Value.int .u8 n)
@[simp] theorem acO(l:List Int):closed (cB l)=true:=rfl
theorem abp:∀l:List Int,Fq (l.map fU)=dr (l.map λn=>Value.int .u8 n)
 | []=>rfl
 | a::r=>by rw[ep,zG];unfold Fq;rw[abp r];rfl
@[simp] theorem acG(l:List Int):clip 1 (l.map fU)=cB l:=by unfold clip;rw[abp];rfl
@[simp] theorem awv{l:List Int}{n:Int}{k:IntKind}{P:D->Prop}:oA (mC 1 (cB l) (.val (.int k n))) P .mk=((0<=n/\n<l.l)/\P (.gC [.val (.int .u8 (gt l n))])):=by
 unfold cB;rw[agE,Cn,Ay,cc];refine propext ⟨λ⟨h,a⟩=>⟨h,?_⟩,λ⟨h,a⟩=>⟨h,?_⟩⟩
 .rw[cp,ax,bb U,aH,aZ]at a;rw[iX h.1 h.2];exact a
 .rw[cp,ax,bb U,aH,aZ];rw[iX h.1 h.2]at a;exact a
@[simp] theorem azh(n:Nat)(l:List Int):jB n (cB l) = []:=rfl
@[simp] theorem asc(l:List Int):cellsOf (cB l)=dr [cB l]:=rfl
@[simp] theorem aw9(l:List Int):one (cB l)=true:=rfl
@[simp] theorem azL(l:List Int):nI (cB l) = []:=rfl
@[simp] theorem aq4(t bytes:Nat)(l:List Int)(y:D)(H:gd)(a:Nat):sX t 1 bytes (cB l) y H a=(lu 1 H y).bind λq=>if q.2≠0/\(l.l+q.2)*bytes<=140737488355328/\l.l+q.2<=9223372036854775807 then dr (.gf a 0 1 0 (l.l+q.2),.new (.row t 0 (cl fU l++q.1)))else none:=by unfold cB;rw[abX,cc,b7,<-zx];rfl
def ag0:DY=cl fW Proofs.YtmehofoficaelaaGreatDoor.Ao:=Dx _
def UX:DR=cl fW Proofs.YtmehofoficaelaaGreatDoor.By:=Dx _
end Go.AL
namespace Go.Proofs.YtmehofoficaelaaGreatDoor
open Go Go.AL Classical
set_option maxRecDepth 10000
set_option maxHeartbeats 4000000
def ann:∀m:Nat,m<31->bits .and .u64 (bs.wrap (-((m:Int)+1))) 31=32-((m:Int)+1)/\bs.wrap (32-(32-((m:Int)+1)))=(m:Int)+1:=jh
def amy(a b:Int):bits .or .u32 a b=bits .or .u32 b a:=by simp only[bits,BitVec.or_comm]
def Gz(x n:Int)(b:1<=n/\n<=31):Wf T 292 [.val (.int .u32 x),.i (-n)] [] (Is (.val (.int .u32 (tn n x)))):=by obtain⟨h1,a⟩:=ann (n-1).n U;rw[(U:(((n-1).n:Nat):Int)+1=n)]at h1 a;have e:bits .or .u32 (yW .u32 x (32-n)) (mG .u32 x n)=tn n x:=amy _ _;refine Yg Ki ?_;simp[Ki,h1,a,kc,e];exact mI
def Qo(x n:Int)(a:1<=n/\n<=31):Wf T 293 [.i n,.gC [.val (.int .u32 x)]] [] (Is (.val (.int .u32 (tn n x)))):=by refine Yg Kj ?_;simp[Kj];refine gh ?_;refine Yc (Gz x n a) ?_;simp
def Ws(x a b c:Int)(f:1<=a/\a<=31)(e:1<=b/\b<=31)(d:1<=c/\c<=31):Wf T 276 [.val (.int .u32 x),.i a,.i b,.i c] [] (Is (.val (.int .u32 (mx x a b c)))):=by refine Yg Kf ?_;simp[Kf];refine Yr (Qo x a f) ?_;simp;refine Yr (Qo x b e) ?_;simp;refine Yr (Qo x c d) ?_;simp;rfl
def w5(x n:Int)(a:1<=n/\n<=31):Wf T 258 [.i n,.val (.int .u32 x)] [] (Is (.val (.int .u32 (tn n x)))):=by refine Yg Kb ?_;simp[Kb];refine gh ?_;rfl
@[simp] theorem azJ(b:List Int):w1 b 0=zs 64:=by rw[w1,Pz,vb]
theorem abv(b:List Int)(n:Nat):w1 b (n+1)=wp (w1 b n) n (b4.wrap (gt b n)):=by rw[w1,w1,Pz]
@[simp] theorem aoy(w:List Int):w2 w 0=w:=by rw[w2,PA]
theorem abx(w:List Int)(n:Nat):w2 w (n+1)=wn (w2 w n) (n+16):=by rw[w2,w2,PA]
theorem Fs(b:List Int):∀n:Nat,n<=64->(w1 b n).l=64
 | 0,_=>fZ
 | n+1,h=>by rw[abv,wp,iW U (by rw[Fs b n U];omega),Fs b n U]
theorem Jn{w:List Int}(h:w.l=64):∀m:Nat,m<=48->(w2 w m).l=64
 | 0,_=>by rw[aoy];exact h
 | m+1,hm=>by rw[abx,wn,iW U (by rw[Jn h m U];omega),Jn h m U]
def abw{b:List Int}{i:Int}(i0:0<=i):w1 b (i+1).n=pt (w1 b i.n) (i / 4) (bits .or .u32 (yW .u32 (gt (w1 b i.n) (i / 4)) 8) (b4.wrap (gt b i))):=by rw[(U:(i+1).n=i.n+1),abv,wp,(U:((i.n / 4:Nat):Int)=i / 4),(U:((i.n:Nat):Int)=i)]
def aby{w:List Int}{i:Int}(i0:16<=i):w2 w (i+1-16).n=pt (w2 w (i-16).n) i (ad (ad (ad (gt (w2 w (i-16).n) (i-16)) (gt (w2 w (i-16).n) (i-7)))
  (xr (xr (tn 7 (gt (w2 w (i-16).n) (i-15))) (tn 18 (gt (w2 w (i-16).n) (i-15)))) (mG .u32 (gt (w2 w (i-16).n) (i-15)) 3)))
  (xr (xr (tn 17 (gt (w2 w (i-16).n) (i-2))) (tn 19 (gt (w2 w (i-16).n) (i-2)))) (mG .u32 (gt (w2 w (i-16).n) (i-2)) 10))):=by
 rw[(U:(i+1-16).n=(i-16).n+1),abx,wn]
 rw[(U:(((i-16).n+16:Nat):Int)=i),(U:(((i-16).n+16-16:Nat):Int)=i-16),(U:(((i-16).n+16-7:Nat):Int)=i-7),
  (U:(((i-16).n+16-15:Nat):Int)=i-15),(U:(((i-16).n+16-2:Nat):Int)=i-2)]
def TT(b:List Int):u9 b=w2 (w1 b 64) 48:=by rw[u9]
def aa7(b:List Int):(u9 b).l=64:=by rw[TT];exact Jn (Fs b 64 (Nat.le_refl _)) 48 (Nat.le_refl _)
def aeL(b:List Int)(l:b.l=64):Wf T 275 [cB b] [] (Is (.agg (cl fW (u9 b)))):=by
 obtain⟨W,g⟩:∃W,u9 b=W:=⟨_,rfl⟩;rw[g];rw[TT]at g;refine Yg Ke ?_;simp[Ke];refine gx.e ((0,zs 64):Int×List Int) (λy=>[(0,cB b),(2,.ptr 0 0 0),(3,.ptr 1 0 0),(10,.i y.1)]) (λy=>[.row 375 0 (cl fW (zs 64)),.row 375 0 (cl fW y.2)]) (λy=>(0<=y.1/\y.1<=64)/\y.2=w1 b y.1.n) (λy=>(64-y.1).n) ?_ ?_
 .simp
 rintro⟨i,w⟩ ⟨⟨i0,f⟩,c⟩;dsimp only at i0 f c ⊢;have hl:w.l=64:=by rw[c];exact Fs b i.n U
 by_cases hi:i<64
 .have h:u0 i 4=i / 4:=u4 i0 U U;have hs:=abw (b:=b) i0;rw[<-c]at hs;simp[hi,h];refine jT h ?_;refine LJ.e (i+1,pt w (i / 4) (bits .or .u32 (yW .u32 (gt w (i / 4)) 8) (b4.wrap (gt b i)))) ?_;exact⟨U,iM,hs.symm⟩
 .have d:i=64:=by omega
  subst d;simp;refine gx.st mu ?_;refine gx.e ((16,w):Int×List Int) (λy=>[(2,.ptr 0 0 0),(3,.ptr 1 0 0),(5,.i y.1)]) (λy=>[.row 375 0 (cl fW (zs 64)),.row 375 0 (cl fW y.2)]) (λy=>(16<=y.1/\y.1<=64)/\y.2=w2 w (y.1-16).n) (λy=>(64-y.1).n) ?_ ?_
  .simp
  rintro⟨i,x⟩ ⟨⟨i0,f⟩,a⟩;dsimp only at i0 f a ⊢;have j:x.l=64:=by rw[a];exact Jn hl (i-16).n U
  by_cases hi:i<64
  .have hs:=aby (w:=w) i0;rw[<-a]at hs;simp[hi];refine gh ?_;refine Yc (Gz _ 7 U) ?_;simp;refine Yc (Gz _ 18 U) ?_;simp;refine gh ?_;refine Yc (Gz _ 17 U) ?_;simp;refine Yc (Gz _ 19 U) ?_;simp;refine gh ?_;refine LJ.i (i+1,w2 w (i+1-16).n) (by first|rfl|simp[hs,xr]) (by first|rfl|simp[hs,xr]) rfl rfl ?_;exact⟨U,iM,rfl⟩
  .have d:i=64:=by omega
   subst d;have e:x=W:=by rw[a,<-g,c,show((64:Int)-16).n=48 from rfl,show(64:Int).n=64 from rfl]
   subst e;have k:x.take 64=x:=af U;simp[j,k]
def aeI(b:List Int)(o:b.l=64):Wf T 256 [dU b] [] (Is (.agg (cl fW (u9 b)))):=by
 obtain⟨W,h⟩:∃W,u9 b=W:=⟨_,rfl⟩;rw[h];rw[TT]at h;refine Yg Ka ?_;simp[Ka];refine gx.e ((0,zs 64):Int×List Int) (λy=>[(0,dU b),(2,.ptr 0 0 0),(3,.ptr 1 0 0),(4,.i y.1)]) (λy=>[.row 375 0 (cl fW (zs 64)),.row 375 0 (cl fW y.2)]) (λy=>(0<=y.1/\y.1<=16)/\y.2=w1 b (4*y.1).n) (λy=>(16-y.1).n) ?_ ?_
 .simp
 rintro⟨i,w⟩ ⟨⟨i0,g⟩,c⟩;dsimp only at i0 g c ⊢
 by_cases hi:i<16
 .simp[hi];refine gx.e ((0,w):Int×List Int) (λy=>[(0,dU b),(2,.ptr 0 0 0),(3,.ptr 1 0 0),(4,.i i),(5,.i y.1)]) (λy=>[.row 375 0 (cl fW (zs 64)),.row 375 0 (cl fW y.2)]) (λy=>(0<=y.1/\y.1<=4)/\y.2=w1 b (4*i+y.1).n) (λy=>(4-y.1).n) ?_ ?_
  .simp[c]
  rintro⟨k,u⟩ ⟨⟨k0,k1⟩,d⟩;dsimp only at k0 k1 d ⊢;have hl:u.l=64:=by rw[d];exact Fs b (4*i+k).n U
  by_cases m:k<4
  .have e:=abw (b:=b) (i:=4*i+k) U;rw[<-d,(U:(4*i+k) / 4=i),(U:4*i+k+1=4*i+(k+1))]at e;simp[m];refine gh ?_;refine LJ.i (k+1,w1 b (4*i+(k+1)).n) (by first|rfl|simp[e]) (by first|rfl|simp[e]) rfl rfl ?_;exact⟨U,iM,rfl⟩
  .have j:k=4:=by omega
   subst j;simp;refine gh ?_;refine LJ.e (i+1,u) ?_;exact⟨U,iM,by rw[d,(U:4*(i+1)=4*i+4)]⟩
 .have f:i=16:=by omega
  subst f;have hl:w.l=64:=by rw[c];exact Fs b _ U
  simp;refine gx.st mu ?_;refine gx.e ((16,w):Int×List Int) (λy=>[(2,.ptr 0 0 0),(3,.ptr 1 0 0),(6,.i y.1)]) (λy=>[.row 375 0 (cl fW (zs 64)),.row 375 0 (cl fW y.2)]) (λy=>(16<=y.1/\y.1<=64)/\y.2=w2 w (y.1-16).n) (λy=>(64-y.1).n) ?_ ?_
  .simp
  rintro⟨i,x⟩ ⟨⟨i0,g⟩,a⟩;dsimp only at i0 g a ⊢;have l:x.l=64:=by rw[a];exact Jn hl (i-16).n U
  by_cases hi:i<64
  .have hs:=aby (w:=w) i0;rw[<-a]at hs;simp[hi];refine gh ?_;refine Yt (w5 _ 7 U) ?_;simp;refine Yt (w5 _ 18 U) ?_;simp;refine Yt (w5 _ 17 U) ?_;simp;refine Yt (w5 _ 19 U) ?_;simp;refine gh ?_;refine LJ.i (i+1,w2 w (i+1-16).n) (by first|rfl|simp[hs,xr]) (by first|rfl|simp[hs,xr]) rfl rfl ?_;exact⟨U,iM,rfl⟩
  .have f:i=64:=by omega
   subst f;have e:x=W:=by rw[a,<-h,c,show((64:Int)-16).n=48 from rfl,show(4*16:Int).n=64 from rfl]
   subst e;have n:x.take 64=x:=af U;simp[l,n]
def len8{l:List Int}(h:l.l=8):∃a b c d e f g i,l = [a,b,c,d,e,f,g,i]:=by
 match l,h with
 | [a,b,c,d,e,f,g,i],_=>exact⟨a,b,c,d,e,f,g,i,rfl⟩
def Dw(a b c d e f g i:Int):cl fW [a,b,c,d,e,f,g,i] = [.val (.int .u32 a),.val (.int .u32 b),.val (.int .u32 c),.val (.int .u32 d),.val (.int .u32 e),.val (.int .u32 f),.val (.int .u32 g),.val (.int .u32 i)]:=(Dx _).symm
def amX{c:List Int}(h:c.l=8)(k w:Int):(AF c k w).l=8:=by obtain⟨_,_,_,_,_,_,_,_,rfl⟩:=len8 h;rfl
def Tk(w c:List Int):se w c 0=c:=by rw[se,OT]
def aav(w c:List Int)(n:Nat):se w c (n+1)=AF (se w c n) (gt Ao n) (gt w n):=by rw[se,se,OT]
theorem E0(w:List Int){c:List Int}(h:c.l=8):∀n,(se w c n).l=8
 | 0=>by rw[Tk];exact h
 | n+1=>by rw[aav];exact amX (E0 w h n) _ _
def aaw{w c:List Int}{i:Int}(i0:0<=i):se w c (i+1).n=AF (se w c i.n) (gt Ao i) (gt w i):=by rw[(U:(i+1).n=i.n+1),aav,(U:((i.n:Nat):Int)=i)]
@[simp] theorem axM(H:gd)(b:List Int):iB H 40 (cB b) = []:=by unfold iB;rw[if_pos (acO b)]
@[simp] theorem azG(n:Int):Fk .xor (.val (.int .u32 n))=dr (.val (.int .u32 (bits .xor .u32 b4.max n))):=rfl
@[simp] theorem awq{l:List Int}{n:Int}{P:D->Prop}:oA (cl fW (l.drop n.n))[0]? P .mk=(n.n<l.l/\P (.val (.int .u32 (gt l n)))):=by
 by_cases h:n.n<l.l
 .rw[bH h,nb,Wy];have:gt l n=l[n.n]:=by unfold gt;rw[cp,bb h];rfl
  rw[this];simp[h]
 .rw[bQ U];simp[h]
def YY:Ao.l=64:=rfl
def ZW(c s:List Int)(i:Int)(u:List Int):Prop:=u.l=8/\∀j:Int,0<=j->gt u j=if j<i then ad (gt c j) (gt s j)else gt c j
def ZW.z{c s:List Int}(h:c.l=8):ZW c s 0 c:=⟨h,λj j0=>by rw[if_neg U]⟩
def ZW.n{c s u:List Int}{i:Int}(h:ZW c s i u)(i0:0<=i)(b:i<8):ZW c s (i+1) (pt u i (ad (gt u i) (gt s i))):=by
 have h1:=h.1;refine⟨by rw[iW i0 U];exact h1,λj j0=>?_⟩;rw[py i0 U j0];have a:=h.2 j j0
 by_cases e:j=i
 .subst e;rw[if_pos rfl,if_pos U,a,if_neg U]
 .rw[if_neg e,a]
  by_cases q:j<i
  .rw[if_pos q,if_pos U]
  .rw[if_neg q,if_neg U]
def ZW.e{c s u:List Int}(h:ZW c s 8 u)(hs:s.l=8)(b:c.l=8):u=di ad c s:=by have h1:=h.1;refine bg (by rw[eh];omega) λj j0 j1=>?_;have a:=h.2 j U;rw[if_pos U,iX U U,iX U U,iX U U]at a;rw[List.getElem_zipWith];exact a
def aeF(s b:List Int)(hs:s.l=8)(v:b.l=64):Wf T 223 [.agg (cl fW s),cB b] [] (Is (.agg (cl fW (tw s b)))):=by
 have c:=aeL b v;have l:=aa7 b;obtain⟨r,j⟩:∃r,tw s b=r:=⟨_,rfl⟩;have f:di ad (se (u9 b) s 64) s=r:=by rw[<-j,tw]
 rw[j];obtain⟨w,m⟩:∃w,u9 b=w:=⟨_,rfl⟩;rw[m]at c l f;clear m j;obtain⟨K,k⟩:∃K,Ao=K:=⟨_,rfl⟩;have B:K.l=64:=by rw[<-k];exact YY
 have o:s.take 8=s:=af U;refine Yg J9 ?_;simp[J9,ag0,k];refine Yt (c) ?_;simp[o,hs,l];refine gx.e ((0,s):Int×List Int) (λy=>[(2,.ptr 0 0 0),(4,.ptr 1 0 0),(5,.ptr 2 0 0),(6,.ptr 3 0 0),(14,.i y.1)]) (λy=>[.row 323 0 (cl fW s),.row 323 0 (cl fW (zs 8)),.row 375 0 (cl fW w),.row 323 0 (cl fW y.2)]) (λy=>(0<=y.1/\y.1<=64)/\y.2=se w s y.1.n) (λy=>(64-y.1).n) ?_ ?_
 .simp[Tk]
 rintro⟨i,c⟩ ⟨⟨i0,h⟩,a⟩;dsimp only at i0 h a ⊢
 by_cases hi:i<64
 .have e:=aaw (w:=w) (c:=s) i0;rw[<-a,k]at e;obtain⟨A,G,c2,F,z,E,D,C,x⟩:=len8 (show c.l=8 by rw[a];exact E0 w hs _);subst x;rw[Dw];simp[hi];refine Yt (Ws z 6 11 25 U U U) ?_;simp;refine gh ?_;refine Yt (Ws A 2 13 22 U U U) ?_;simp;refine gh ?_;refine LJ.i (i+1,se w s (i+1).n) (by first|rfl|simp[e,AF,Dw,xr]) (by first|rfl|simp[e,AF,Dw,xr]) rfl rfl ?_;exact⟨U,iM,rfl⟩
 .have g:i=64:=by omega
  subst g;have n:c.l=8:=by rw[a];exact E0 w hs _
  have q:di ad c s=r:=by rw[a];exact f
  clear a f;simp;refine gx.st mu ?_;refine gx.e ((0,c):Int×List Int) (λy=>[(2,.ptr 0 0 0),(4,.ptr 1 0 0),(6,.ptr 3 0 0),(78,.i y.1)]) (λy=>[.row 323 0 (cl fW s),.row 323 0 (cl fW (zs 8)),.row 375 0 (cl fW w),.row 323 0 (cl fW y.2)]) (λy=>(0<=y.1/\y.1<=8)/\ZW c s y.1 y.2) (λy=>(8-y.1).n) ?_ ?_
  .exact⟨fZ,ZW.z n⟩
  rintro⟨i,u⟩ ⟨⟨i0,h⟩,d⟩;dsimp only at i0 h d ⊢;have p:=d.1
  by_cases hi:i<8
  .simp[hi];refine gh ?_;refine LJ.e (i+1,pt u i (ad (gt u i) (gt s i))) ?_;exact⟨U,iM,d.n i0 hi⟩
  .have g:i=8:=by omega
   subst g;have e:u=r:=by rw[<-q];exact d.e hs n
   subst e;have t:u.take 8=u:=af U;simp[p,t]
def aeJ:Wf T 257 [] [] (Is (.agg (cl fW Ao))):=by rw[<-Dx];exact pc (k:=20) gu
def Wm:Wf T 208 [] [] (Is (.agg (cl fW By))):=by rw[<-Dx];exact pc (k:=20) gu
def Wn(s b:List Int)(hs:s.l=8)(A:b.l=64):Wf T 209 [.agg (cl fW s),dU b] [] (Is (.agg (cl fW (tw s b)))):=by
 have c:=aeI b A;have f:=aa7 b;have ck:=aeJ;obtain⟨r,k⟩:∃r,tw s b=r:=⟨_,rfl⟩;have g:di ad (se (u9 b) s 64) s=r:=by rw[<-k,tw]
 rw[k];obtain⟨w,p⟩:∃w,u9 b=w:=⟨_,rfl⟩;rw[p]at c f g;clear p k;obtain⟨K,l⟩:∃K,Ao=K:=⟨_,rfl⟩;have x:K.l=64:=by rw[<-l];exact YY
 rw[l]at ck;have o:s.take 8=s:=af U;refine Yg J5 ?_;simp[J5];refine Yc (c) ?_;simp[o,hs,f];refine Yc (ck) ?_;simp[o,hs,f,x];refine gx.e ((0,s):Int×List Int) (λy=>[(2,.ptr 0 0 0),(4,.ptr 1 0 0),(5,.ptr 2 0 0),(6,.ptr 3 0 0),(7,.ptr 4 0 0),(8,.i y.1)]) (λy=>[.row 323 0 (cl fW s),.row 323 0 (cl fW (zs 8)),.row 375 0 (cl fW w),.row 375 0 (cl fW K),.row 323 0 (cl fW y.2)]) (λy=>(0<=y.1/\y.1<=64)/\y.2=se w s y.1.n) (λy=>(64-y.1).n) ?_ ?_
 .simp[Tk]
 rintro⟨i,c⟩ ⟨⟨i0,j⟩,a⟩;dsimp only at i0 j a ⊢
 by_cases hi:i<64
 .have e:=aaw (w:=w) (c:=s) i0;rw[<-a,l]at e;obtain⟨n,G,c2,F,m,E,D,C,B⟩:=len8 (show c.l=8 by rw[a];exact E0 w hs _);subst B;rw[Dw];simp[hi];refine Yt (w5 m 6 U) ?_;simp;refine Yt (w5 m 11 U) ?_;simp;refine Yt (w5 m 25 U) ?_;simp;refine gh ?_;refine Yt (w5 n 2 U) ?_;simp;refine Yt (w5 n 13 U) ?_;simp;refine Yt (w5 n 22 U) ?_;simp;refine gh ?_;refine LJ.i (i+1,se w s (i+1).n) (by first|rfl|simp[e,AF,Dw,xr,mx]) (by first|rfl|simp[e,AF,Dw,xr,mx]) rfl rfl ?_;exact⟨U,iM,rfl⟩
 .have h:i=64:=by omega
  subst h;have q:c.l=8:=by rw[a];exact E0 w hs _
  have v:di ad c s=r:=by rw[a];exact g
  clear a g;simp;refine gx.st mu ?_;refine gx.e ((0,c):Int×List Int) (λy=>[(2,.ptr 0 0 0),(4,.ptr 1 0 0),(7,.ptr 4 0 0),(11,.i y.1)]) (λy=>[.row 323 0 (cl fW s),.row 323 0 (cl fW (zs 8)),.row 375 0 (cl fW w),.row 375 0 (cl fW K),.row 323 0 (cl fW y.2)]) (λy=>(0<=y.1/\y.1<=8)/\ZW c s y.1 y.2) (λy=>(8-y.1).n) ?_ ?_
  .exact⟨fZ,ZW.z q⟩
  rintro⟨i,u⟩ ⟨⟨i0,j⟩,d⟩;dsimp only at i0 j d ⊢;have t:=d.1
  by_cases hi:i<8
  .simp[hi];refine gh ?_;refine LJ.e (i+1,pt u i (ad (gt u i) (gt s i))) ?_;exact⟨U,iM,d.n i0 hi⟩
  .have h:i=8:=by omega
   subst h;have e:u=r:=by rw[<-v];exact d.e hs q
   subst e;have z:u.take 8=u:=af U;simp[t,z]
@[simp] theorem ay4(H:gd)(l:List Int):lu 1 H (dU l)=dr (cl fU l,l.l):=by unfold dU;exact I7 ..
theorem PE(n:Nat):zs n ++ [0]=zs (n+1):=by rw[vb,vb,eF]
@[simp] theorem azV:zs 0 = []:=by rw[vb];rfl
theorem ab8(n:Int):(xS n).l=8:=rfl
def Ml(n:Int){i:Int}(i0:0<=i)(a:i<8):gt (xS n) i=aE.wrap (mG .u64 n (56-8*i)):=by have:i=0\/i=1\/i=2\/i=3\/i=4\/i=5\/i=6\/i=7:=U;rcases this with rfl|rfl|rfl|rfl|rfl|rfl|rfl|rfl<;>rfl
def Ps{l:List Int}{i:Int}(i0:0<=i)(a:i<l.l):l.take (i+1).n=l.take i.n ++ [gt l i]:=by rw[(U:(i+1).n=i.n+1),du,bb U,dT,<-iX i0 a]
@[simp] theorem aro(a b:Int):kc .mul .u64 a b=dr (.val (.int .u64 (bs.wrap (a*b)))):=rfl
theorem wrap_u64{s:Int}(h0:0<=s)(h1:s<9223372036854775808):bs.wrap s=s:=by show s % 18446744073709551616=s;omega
def aez(b:List Int)(D:b.l<=4000000000):Wf T 207 [dU b] [] (Is (dU (pad b))):=by
 obtain⟨B,d⟩:∃B,xS (8*b.l)=B:=⟨_,rfl⟩;have E:B.l=8:=by rw[<-d];rfl
 have x:∀i:Int,0<=i->i<8->gt B i=aE.wrap (mG .u64 (8*b.l) (56-8*i)):=λi i0 f=>by rw[<-d];exact Ml _ i0 f
 obtain⟨p,j⟩:∃p,AD b.l=p:=⟨_,rfl⟩;have A:p=63-(b.l+8) % 64:=by rw[<-j];rfl
 have hP:pad b=b++128::zs p++B:=by rw[pad,d,j,vb];simp
 obtain⟨C,o⟩:∃C,b++128::zs p=C:=⟨_,rfl⟩;rw[hP,o];clear hP d j;have n:bs.wrap (b.l:Int)=b.l:=wrap_u64 U U;have m:bs.wrap (8*(b.l:Int))=8*b.l:=wrap_u64 U U;refine Yg C7 ?_;simp[C7];refine gh ?_;refine gx.e ((2,b ++ [128]):Nat×List Int) (λy=>[(0,dU b),(3,.gf 0 y.1 1 0 y.2.l)]) (λy=>[.row 5 y.1 (cl fU y.2),.row 5 0 [.val (.int .u8 128)]]) (λy=>∃k:Nat,k<=p/\y.2=b++128::zs k) (λy=>b.l+1+p-y.2.l) ?_ ?_
 .exact⟨0,U,fZ⟩
 rintro⟨g,q⟩ ⟨k,k0,a⟩;dsimp only at k0 a ⊢;have F:q.l=b.l+1+k:=by rw[a];simp;omega
 have h:gG ((q.l:Int)+8) 64=((q.l:Int)+8) % 64:=jM U
 by_cases v:k<p
 .have h1:¬((q.l:Int)+8) % 64=0:=by omega
  have t:q ++ [0]=b++128::zs (k+1):=by rw[a,<-PE];simp
  simp[h,h1];refine jT h ?_;refine LJ.e (g+1,q ++ [0]) ?_;exact⟨gL,k+1,v,t⟩
 .have r:k=p:=by omega
  subst r;have h1:((q.l:Int)+8) % 64=0:=U;rw[o]at a;subst a;simp[h,h1,n,m];refine kP n m ?_;refine gx.e ((0,g,q):Int×Nat×List Int) (λy=>[(3,.gf 0 y.2.1 1 0 y.2.2.l),(4,.val (.int .u64 (8*b.l))),(5,.i y.1)]) (λy=>[.row 5 y.2.1 (cl fU y.2.2),.row 5 0 [.val (.int .u8 128)]]) (λy=>(0<=y.1/\y.1<=8)/\y.2.2=q++B.take y.1.n) (λy=>(8-y.1).n) ?_ ?_
  .simp
  rintro⟨i,w,u⟩ ⟨⟨i0,f⟩,c⟩;dsimp only at i0 f c ⊢;have z:u.l=q.l+i.n:=by rw[c];simp;omega
  by_cases hi:i<8
  .have e:=Ps (l:=B) i0 U;rw[x i i0 hi]at e;simp[hi];refine gh ?_;refine LJ.e (i+1,w+1,u ++ [aE.wrap (mG .u64 (8*b.l) (56-8*i))]) ?_;exact⟨U,iM,by rw[e,c,aL]⟩
  .have s:i=8:=by omega
   subst s;have e:u=q++B:=by rw[c,af U]
   subst e;simp;refine gh ?_;rw[x4,List.map_append]
@[simp] theorem ayX(f:gZ)(l:List Int)(lo hi:Option X):uu f 1 (dU l) lo hi=(iq f lo 0).bind λa=>(iq f hi l.l).bind λh=>if 0<=a/\a<=h/\h<=l.l then dr (dU ((l.drop a.n).take (h.n-a.n)))else none:=by unfold dU;rw[TO,cc];simp only[Pc]
def aal(b:List Int):(pad b).l % 64=0/\(pad b).l<=b.l+73:=by rw[pad];have h:AD b.l=63-(b.l+8) % 64:=rfl;have a:=ab8 (8*b.l);simp only[aq,aI,eD,a];omega
def Mi{s b:List Int}(h:s.l=8):(tw s b).l=8:=by rw[tw,eh,E0 _ h];omega
def Mn(b s:List Int):qb b s 0=s:=by rw[qb,Mp]
def Mo(b s:List Int)(n:Nat):qb b s (n+1)=tw (qb b s n) ((b.drop (64*n)).take 64):=by rw[qb,qb,Mp]
theorem Ds(b:List Int){s:List Int}(h:s.l=8):∀n,(qb b s n).l=8
 | 0=>by rw[Mn];exact h
 | n+1=>by rw[Mo];exact Mi (Ds b h n)
def EU(s:List Int):(yS s).l=32:=by rw[yS,cc];rfl
def OL(s:List Int){i:Int}(i0:0<=i)(a:i<32):gt (yS s) i=aE.wrap (mG .u32 (gt s (i / 4)) (24-8*(i % 4))):=by
 have hl:(upto 32).l=32:=rfl;rw[iX i0 (by rw[EU];omega)]
 have e:(upto 32)[i.n]' U=i:=by unfold upto;simp;omega
 simp only[yS,List.getElem_map,e]
def Wi(b:List Int)(K:b.l<=4000000000):Wf T 141 [dU b] [] (Is (.agg (cl fU (kH b)))):=by
 have p:=aez b K;have q:=Wm;have H:=aal b;obtain⟨P,hP⟩:∃P,pad b=P:=⟨_,rfl⟩;obtain⟨S,hS⟩:∃S,By=S:=⟨_,rfl⟩;have v:S.l=8:=by rw[<-hS];rfl
 obtain⟨r,o⟩:∃r,kH b=r:=⟨_,rfl⟩;have d:yS (qb P S (P.l / 64))=r:=by rw[<-o,kH,hP,hS]
 rw[hP]at p H;rw[hS]at q;rw[o];clear hP hS o;refine Yg C5 ?_;simp[C5];refine Yc (p) ?_;simp;refine Yc (q) ?_;simp[v];refine gx.e ((0,S):Int×List Int) (λy=>[(2,.ptr 0 0 0),(3,dU P),(4,.ptr 1 0 0),(5,.i y.1)]) (λy=>[.row 70 0 (cl fU (zs 32)),.row 323 0 (cl fW y.2)]) (λy=>∃n:Nat,y.1=64*n/\y.1<=P.l/\y.2=qb P S n) (λy=>(P.l+64-y.1).n) ?_ ?_
 .exact⟨0,fZ,fZ,by simp[Mn]⟩
 rintro⟨i,s⟩ ⟨n,G,l,hs⟩;dsimp only at G l hs ⊢;have a:s.l=8:=by rw[hs];exact Ds P v n
 by_cases hi:i<P.l
 .have f:s.take 8=s:=af U;have x:((P.drop i.n).take 64).l=64:=by rw[aJ,aU];omega
  have e:=Mo P S n;rw[<-hs,(U:64*n=i.n)]at e;have F:(i+64).n-i.n=64:=U;obtain⟨B,E⟩:∃B,(P.drop i.n).take 64=B:=⟨_,rfl⟩;rw[E]at x e;have c:=Wn s B a x;have z:=Mi (s:=s) (b:=B) a;obtain⟨A,J⟩:∃A,tw s B=A:=⟨_,rfl⟩;rw[J]at c e z;simp[hi,a,f];refine nL a f F ?_;rw[F,E];have w:s.drop 8 = []:=bQ U;refine Yt (c) ?_;simp[z,a,f];refine gh ?_;refine LJ.i (i+64,A) (by first|rfl|simp[w]) (by first|rfl|simp[w]) rfl rfl ?_;exact⟨U,n+1,U,U,e.symm⟩
 .have k:n=P.l / 64:=by omega
  rw[<-k,<-hs]at d;have L:r.l=32:=by rw[<-d];exact EU s
  have t:∀j:Int,0<=j->j<32->gt r j=aE.wrap (mG .u32 (gt s (j / 4)) (24-8*(j % 4))):=λj j0 j1=>by rw[<-d];exact OL s j0 j1
  clear d hs p q;simp[hi];refine gh ?_;refine gx.e ((0,zs 32):Int×List Int) (λy=>[(2,.ptr 0 0 0),(4,.ptr 1 0 0),(6,.ptr 2 0 0),(7,.i y.1)]) (λy=>[.row 70 0 (cl fU (zs 32)),.row 323 0 (cl fW s),.row 70 0 (cl fU y.2)]) (λy=>(0<=y.1/\y.1<=32)/\y.2.l=32/\∀j:Int,0<=j->j<y.1->gt y.2 j=gt r j) (λy=>(32-y.1).n) ?_ ?_
  .exact⟨fZ,fZ,λj j0 j1=>absurd j1 gJ⟩
  rintro⟨i,u⟩ ⟨⟨i0,l⟩,g,m⟩;dsimp only at i0 l g m ⊢
  by_cases hi:i<32
  .have C:u0 i 4=i / 4:=u4 i0 U U;have D:gG i 4=i % 4:=jM i0;simp[hi,C,D];refine kP C D ?_;refine LJ.i (i+1,pt u i (gt r i)) (by first|rfl|simp[t i i0 hi]) (by first|rfl|simp[t i i0 hi]) rfl rfl ?_;refine⟨U,iM,by rw[iW i0 U];exact g,λj j0 j1=>?_⟩;dsimp only at j1 ⊢;rw[py i0 U j0]
   by_cases e:j=i
   .rw[if_pos e,e]
   .rw[if_neg e];exact m j j0 U
  .have k:i=32:=by omega
   subst k
   have e:u=r:=by refine bg U λj j0 j1=>?_;have h:=m j U U;rw[iX U U,iX U U]at h;exact h
   subst e;have I:u.take 32=u:=af U;simp[g,I]
@[simp] theorem arT(t:TypeId)(l:List Int)(n:Nat):sY t (dU l) n=dr (.ptr n 0 0,.new (.row t 0 [dU l])):=rfl
@[simp] theorem ayS(f:gZ)(l:List Int)(lo:Option X)(hi mx:X):yX f 1 (dU l) lo hi mx=(iq f lo 0).bind λa=>(tY (ev f hi)).bind λh=>(tY (ev f mx)).bind λm=>if 0<=a/\a<=h/\h=m/\m<=l.l then dr (cB ((l.drop a.n).take (h.n-a.n)))else none:=by unfold dU;rw[anT,cc];simp only[Pc,acG]
def gy.n{T:iF}{f:FuncId}{args:List D}{dst:Option Nat}{s a:St}{K:St->Prop}(hs:s=a)(h:gy T f args dst a K .mk):gy T f args dst s K .mk:=by subst hs;exact h
def aeD(b:List Int):Wf T 221 [dU b] [] (Is (cB b)):=by refine Yg C8 ?_;simp[C8]
def aeE:Wf T 221 [.gi] [] (Is .gi):=by refine Yg C8 ?_;simp[C8]
def Wp(b:List Int):Wf T 222 [dU b,.i 64] [] (Is (.fn (.func 274) [] [.gC [dU b],.gC [.i 64]])):=by refine Yg J8 ?_;simp[J8]
def Wr(P S:List Int)(hl:P.l % 64=0)(q:P.l<=4000001000)(hS:S.l=8):Wf T 274 [.iQ 5,.gC [dU P],.gC [.i 64]]
  [.row 70 0 (cl fU (zs 32)),.row 5 0 [.val (.int .u8 128)],.dead,.row 323 0 (cl fW S),.jH,.iu 9920 [(5,.ptr 3 0 0)] .ready]
  (λ_ H'=>H' = [.row 70 0 (cl fU (zs 32)),.row 5 0 [.val (.int .u8 128)],.dead,.row 323 0 (cl fW (qb P S (P.l / 64))),.jH,.iu 9920 [(5,.ptr 3 0 0)] .ready]):=by
 refine Yg Kd ?_;simp[Kd];refine gx.e ((0,S):Int×List Int) (λy=>[(0,.iQ 5),(1,.gC [dU P]),(2,.gC [.i 64]),(4,.i y.1)]) (λy=>[.row 70 0 (cl fU (zs 32)),.row 5 0 [.val (.int .u8 128)],.dead,.row 323 0 (cl fW y.2),.jH,.iu 9920 [(5,.ptr 3 0 0)] .ready]) (λy=>∃n:Nat,y.1=64*n/\y.1<=P.l/\y.2=qb P S n) (λy=>(P.l+64-y.1).n) ?_ ?_
 .exact⟨0,fZ,fZ,by simp[Mn]⟩
 rintro⟨i,s⟩ ⟨n,l,m,hs⟩;dsimp only at l m hs ⊢;have a:s.l=8:=by rw[hs];exact Ds P hS n
 by_cases hi:i<P.l
 .have d:s.take 8=s:=af U;have j:s.drop 8 = []:=bQ U;have f:((P.drop i.n).take 64).l=64:=by rw[aJ,aU];omega
  have e:=Mo P S n;rw[<-hs,(U:64*n=i.n)]at e;have p:(i+64).n-i.n=64:=U;have em:min 64 ((P.l-i.n:Nat):Int)=64:=U;obtain⟨B,h⟩:∃B,(P.drop i.n).take 64=B:=⟨_,rfl⟩;rw[h]at f e;have c:=aeF s B a f;have g:=Mi (s:=s) (b:=B) a;obtain⟨A,o⟩:∃A,tw s B=A:=⟨_,rfl⟩;rw[o]at c e g;simp[hi,em];refine jT em ?_;simp only[em,p,h];refine q'.r (rf:=9920) (env0:=[(5,.ptr 3 0 0)]) (Rd:=Dk) fZ rfl rfl Dk.a Dk.b (oT rfl) (oT rfl) ?_;simp[Dk,a,d];refine Yc (c) ?_;simp[g,a,d,j];refine gh ?_;refine LJ.e (i+64,A) ?_;exact⟨U,n+1,U,U,e.symm⟩
 .have k:n=P.l / 64:=by omega
  subst k;simp[hi,hs]
def Wj(b:List Int)(Y:b.l<=4000000000):Wf T 155 [dU b] [] (Is (.agg (cl fU (kH b)))):=by
 have R:=aeD b;obtain⟨B,w⟩:∃B,xS (8*b.l)=B:=⟨_,rfl⟩;have QV:B.l=8:=by rw[<-w];rfl
 have V:∀i:Int,0<=i->i<8->gt B i=aE.wrap (mG .u64 (8*b.l) (56-8*i)):=λi i0 o=>by rw[<-w];exact Ml _ i0 o
 obtain⟨p,D⟩:∃p,AD b.l=p:=⟨_,rfl⟩;have W:p=63-(b.l+8) % 64:=by rw[<-D];rfl
 have hP:pad b=b++128::zs p++B:=by rw[pad,w,D,vb];simp
 obtain⟨C,E⟩:∃C,b++128::zs p=C:=⟨_,rfl⟩;rw[E]at hP;have DT:C.l=b.l+1+p:=by rw[<-E];simp;omega
 obtain⟨r,A⟩:∃r,kH b=r:=⟨_,rfl⟩;obtain⟨S,hS⟩:∃S,By=S:=⟨_,rfl⟩;have x:S.l=8:=by rw[<-hS];rfl
 have m:yS (qb (C++B) S ((C++B).l / 64))=r:=by rw[<-A,kH,hP,hS]
 rw[A];clear hP w D A;have J:S.take 8=S:=af U;have s:bs.wrap (b.l:Int)=b.l:=wrap_u64 U U;have n:bs.wrap (8*(b.l:Int))=8*b.l:=wrap_u64 U U;refine Yz zg (ji 36 [2] zg.body) ?_;simp[zg,ji,kK,nq,nA,nR,mm,UX,hS];refine Yc (R) ?_;simp;refine gh ?_;refine gx.e ((0,b ++ [128]):Nat×List Int) (λy=>[(0,dU b),(2,.ptr 0 0 0),(3,.gf 2 y.1 1 0 y.2.l)]) (λy=>[.row 70 0 (cl fU (zs 32)),.row 5 0 [.val (.int .u8 128)],.row 5 y.1 (cl fU y.2)]) (λy=>∃k:Nat,k<=p/\y.2=b++128::zs k) (λy=>b.l+1+p-y.2.l) ?_ ?_
 .exact⟨0,U,fZ⟩
 rintro⟨g,q⟩ ⟨k,k0,t⟩;dsimp only at k0 t ⊢;have Ej:q.l=b.l+1+k:=by rw[t];simp;omega
 have c:gG ((q.l:Int)+8) 64=((q.l:Int)+8) % 64:=jM U
 by_cases N:k<p
 .have h1:¬((q.l:Int)+8) % 64=0:=by omega
  have M:q ++ [0]=b++128::zs (k+1):=by rw[t,<-PE];simp
  simp[c,h1];refine jT c ?_;refine LJ.e (g+1,q ++ [0]) ?_;exact⟨gL,k+1,N,M⟩
 .have I:k=p:=by omega
  subst I;have h1:((q.l:Int)+8) % 64=0:=U;rw[E]at t;subst t;simp[c,h1,s,n];refine kP s n ?_;refine gx.st mu ?_;refine gx.e ((0,g,q):Int×Nat×List Int) (λy=>[(0,dU b),(2,.ptr 0 0 0),(3,.gf 2 y.2.1 1 0 y.2.2.l),(4,.i (56-8*y.1))]) (λy=>[.row 70 0 (cl fU (zs 32)),.row 5 0 [.val (.int .u8 128)],.row 5 y.2.1 (cl fU y.2.2)]) (λy=>(0<=y.1/\y.1<=8)/\y.2.2=q++B.take y.1.n) (λy=>(8-y.1).n) ?_ ?_
  .simp
  rintro⟨i,Q,u⟩ ⟨⟨i0,o⟩,a⟩;dsimp only at i0 o a ⊢;have d:u.l=q.l+i.n:=by rw[a];simp;omega
  by_cases hi:i<8
  .have e:=Ps (l:=B) i0 U;rw[V i i0 hi]at e;have K:0<=56-8*i:=U;simp[K,n,s];(with_reducible repeat' first|refine Xk ?_<;>try simp[n,s]|refine Xs ?_ ?_<;>intro h<;>(try intro Z)<;>(try simp[h,n,s])<;>try omega|refine Xg ?_|omega);refine LJ.i (i+1,Q+1,u ++ [aE.wrap (mG .u64 (8*b.l) (56-8*i))]) (by first|rfl|simp[(U:56-8*(i+1)=56-8*i-8)]) (by first|rfl|simp[(U:56-8*(i+1)=56-8*i-8)]) rfl rfl ?_;exact⟨U,iM,by rw[e,a,aL]⟩
  .have z:i=8:=by omega
   subst z;obtain⟨P,hP⟩:∃P,q++B=P:=⟨_,rfl⟩;have Nw:P.l=q.l+8:=by rw[<-hP];simp;omega
   have e:u=P:=by rw[a,af U,hP]
   rw[hP]at m;clear d a hP;subst e;simp;refine gh ?_;refine gy.n (by simp[x,J];rfl) ?_;rw[<-x4];refine Yc (Wp u) ?_;simp;refine tv.r (f:=274) (first:=[]) (cap:=[.gC [dU u],.gC [.i 64]]) rfl rfl rfl rfl ?_;simp;refine Wf.mono (Wr u S U U x) ?_;rintro _ H' rfl;have L:=Ds u x (u.l / 64);obtain⟨v,G⟩:∃v,qb u S (u.l / 64)=v:=⟨_,rfl⟩;rw[G]at m L ⊢;clear G;have X:r.l=32:=by rw[<-m];exact EU v
   have F:∀j:Int,0<=j->j<32->gt r j=aE.wrap (mG .u32 (gt v (j / 4)) (24-8*(j % 4))):=λj j0 j1=>by rw[<-m];exact OL v j0 j1
   clear m;refine⟨[(5,.ptr 3 0 0)],.ready,fZ,?_⟩;simp;refine gx.st mu ?_;refine gx.kg [4] false ((0,zs 32):Int×List Int) (λy=>[(2,.ptr 0 0 0),(5,.ptr 3 0 0),(7,.ptr 5 0 0),(42,.i y.1)]) (λy=>[.row 70 0 (cl fU (zs 32)),.row 5 0 [.val (.int .u8 128)],.dead,.row 323 0 (cl fW v),.jH,.row 70 0 (cl fU y.2)]) (λy=>(0<=y.1/\y.1<=32)/\y.2.l=32/\∀j:Int,0<=j->j<y.1->gt y.2 j=gt r j) (λy=>(32-y.1).n) ?_ fZ (by first|rfl|(simp[je];done)|(simp[*];done)) rfl rfl rfl ?_
   .exact⟨fZ,fZ,λj j0 j1=>absurd j1 gJ⟩
   rintro⟨i,u⟩ ⟨⟨i0,o⟩,d,a⟩;dsimp only at i0 o d a ⊢
   by_cases hi:i<32
   .have c:u0 i 4=i / 4:=u4 i0 U U;have H:gG i 4=i % 4:=jM i0;simp[hi,c,H];refine kP c H ?_;refine LJ.i (i+1,pt u i (gt r i)) (by first|rfl|simp[F i i0 hi]) (by first|rfl|simp[F i i0 hi]) rfl rfl ?_;refine⟨U,iM,by rw[iW i0 U];exact d,λj j0 j1=>?_⟩;dsimp only at j1 ⊢;rw[py i0 U j0]
    by_cases e:j=i
    .rw[if_pos e,e]
    .rw[if_neg e];exact a j j0 U
   .have z:i=32:=by omega
    subst z
    have e:u=r:=by refine bg U λj j0 j1=>?_;have h:=a j U U;rw[iX U U,iX U U]at h;exact h
    subst e;have O:u.take 32=u:=af U;simp[d,O]
@[irreducible] def fB(l:List Int):List D:=[dU l]
@[simp] theorem GC(l:List Int):fB l = [dU l]:=by unfold fB;rfl
instance:Fl fB 1:=⟨λ_=>fZ,λ_=>by simp[gK]⟩
@[irreducible] def pk(L:List (List Int)):D:=.sl 1 (L.map fB)
theorem DC(L:List (List Int)):pk L = .sl 1 (L.map fB):=by unfold pk;rfl
@[simp] theorem asT(L:List (List Int)):closed (pk L)=true:=by unfold pk;exact xZ L
@[simp] theorem avv(L:List (List Int))(H:gd):mY .slice (pk L) H=dr (.i L.l):=by unfold pk;simp
@[simp] theorem ayV(f:gZ)(l:List (List Int))(lo hi:Option X):uu f 1 (pk l) lo hi=(iq f lo 0).bind λa=>(iq f hi l.l).bind λh=>if 0<=a/\a<=h/\h<=l.l then dr (pk ((l.drop a.n).take (h.n-a.n)))else none:=by unfold pk;rw[TO,cc];simp only[Pc]
@[simp] theorem awu{l:List (List Int)}{n:Int}{k:IntKind}{P:D->Prop}:oA (mC 1 (pk l) (.val (.int k n))) P .mk=((0<=n/\n<l.l)/\P (.gC [dU (gt l n)])):=by unfold pk;simp
def Vd(l:List Int)(n:Int):D.val (.int .u8 n)::cl fU l=cl fU (n::l):=by rw[nb,zG];rfl
def rE(b:List Int):(kH b).l=32:=by rw[kH];exact EU _
def aeB(b:List Int)(a:b.l<=4000000000):Wf T 210 [dU b] [] (Is (dU (0::b))):=by refine Yg J6 ?_;simp[J6];refine gh ?_;rw[Vd];exact vx (k:=38) gL
def aeo(b:List Int)(e:b.l<=3000000000):Wf T 142 [dU b] [] (Is (.agg (cl fU (kH (0::b))))):=by have c:=Wi (0::b) gL;have hl:=rE (0::b);obtain⟨r,d⟩:∃r,kH (0::b)=r:=⟨_,rfl⟩;rw[d]at c hl ⊢;have a:r.take 32=r:=af U;refine Yg JX ?_;simp[JX];refine Yc (aeB b U) ?_;simp;refine Yc (c) ?_;simp[hl,a]
def aeC(a b:List Int)(f:a.l=32)(e:b.l=32):Wf T 211 [.agg (cl fU a),.agg (cl fU b)] [] (Is (dU (1::(a++b)))):=by have c:a.take 32=a:=af U;have d:b.take 32=b:=af U;refine Yg J7 ?_;simp[J7];refine xQ f e c d ?_;rw[Vd,c,c,d];exact vx (k:=38) gL
def aeq(a b:List Int)(f:a.l=32)(e:b.l=32):Wf T 144 [.agg (cl fU a),.agg (cl fU b)] [] (Is (.agg (cl fU (kH (1::(a++b)))))):=by have c:=Wi (1::(a++b)) gL;have hl:=rE (1::(a++b));obtain⟨r,i⟩:∃r,kH (1::(a++b))=r:=⟨_,rfl⟩;rw[i]at c hl ⊢;have h:r.take 32=r:=af U;have d:a.take 32=a:=af U;have g:b.take 32=b:=af U;refine Yg JY ?_;simp[JY,f,e,d,g];refine Yc (aeC a b f e) ?_;simp[d,g];refine Yc (c) ?_;simp[hl,h]
def rI(r:Option (List (D×gd))):Option Int:=match r with
 | some [(.val (.int .i64 n),[])]=>dr n
 | _=>none
def aat{r:Option (List (D×gd))}{n:Int}(h:rI r=dr n):r=dr [(.i n,[])]:=by
 unfold rI at h;split at h
 .cases h;rfl
 .cases h
def ac9:(er 65).all (λn=>Nat.ble n 1||decide (rI (run T [] 40 143 [.i n] [])=dr (s5 n)))=true:=gu
def aep(n:Nat)(h0:2<=n)(h1:n<=64):Wf T 143 [.i n] [] (Is (.i (s5 n))):=by
 have h:=ac9;rw[en]at h;have h:=h n (bp.2 U);rw[bX,decide_eq_true_eq]at h;rcases h with h|h
 .exact absurd (c8 h) U
 .exact pc (aat h)
def Vz{n:Nat}(h:2<=n):1<=s5 n/\s5 n<n:=by unfold s5;have h1:=Nat.log2_self_le (n:=n-1) U;have a:0<2 ^ (Nat.log2 (n-1)):=Nat.pow_pos jh;omega
def aaP(k:Nat):oS (k+1) []=kH []:=by rw[oS,E6]
def Tu(k:Nat)(x:List Int):oS (k+1) [x]=kH (0::x):=by rw[oS,E6]
def Tv(k:Nat){l:List (List Int)}(h:2<=l.l):oS (k+1) l=kH (1::(oS k (l.take (s5 l.l))++oS k (l.drop (s5 l.l)))):=by
 match l,h with
 | a::b::r,_=>rw[oS,oS,oS,E6]<;>simp
def IU{k:Nat}{l:List (List Int)}(h:l.l<k):(oS k l).l=32:=by
 match k,l with
 | 0,_=>omega
 | k+1,[]=>rw[aaP];exact rE _
 | k+1,[x]=>rw[Tu];exact rE _
 | k+1,a::b::r=>rw[Tv k fZ];exact rE _
theorem Qk:∀(k:Nat) (l:List (List Int)),l.l<k->0<l.l->l.l<=64->(∀x∈l,x.l<=3000000000)->Wf T 88 [pk l] [] (Is (.agg (cl fU (oS k l))))
 | 0,l,h,_,_,_=>U
 | k+1,l,hk,h0,GZ,hx=>by
  by_cases h1:l.l=1
  .obtain⟨x,rfl⟩:∃x,l = [x]:=by
    match l,h1 with
    | [x],_=>exact⟨x,rfl⟩
   rw[Tu];have c:=aeo x (hx x fZ);have hl:=rE (0::x);obtain⟨r,b⟩:∃r,kH (0::x)=r:=⟨_,rfl⟩;rw[b]at c hl ⊢;have a:r.take 32=r:=af U;refine Yg zd ?_;simp[zd];refine Yc (c) ?_;simp[hl,a]
  .have o:=Vz (n:=l.l) U;have cm:=aep l.l U GZ;rw[Tv k U];obtain⟨m,j⟩:∃m,s5 l.l=m:=⟨_,rfl⟩;rw[j]at o cm ⊢;have v:(l.take m).l=m:=by rw[aJ];omega
   have t:(l.drop m).l=l.l-m:=by rw[aU]
   have i:=Qk k (l.take m) U U U λx h=>hx x (aX h);have g:=Qk k (l.drop m) U U U λx h=>hx x (bt h);have e:=IU (k:=k) (l:=l.take m) U;have d:=IU (k:=k) (l:=l.drop m) U;obtain⟨A,q⟩:∃A,oS k (l.take m)=A:=⟨_,rfl⟩;obtain⟨B,p⟩:∃B,oS k (l.drop m)=B:=⟨_,rfl⟩;rw[q]at i e ⊢;rw[p]at g d ⊢;have f:=aeq A B e d;have hl:=rE (1::(A++B));obtain⟨r,b⟩:∃r,kH (1::(A++B))=r:=⟨_,rfl⟩;rw[b]at f hl ⊢;have a:r.take 32=r:=af U;have n0:¬l.l=0:=U;have s:(l.drop m).take (l.l-m)=l.drop m:=af U;refine Yg zd ?_;simp[zd,n0,h1];(with_reducible repeat' first|refine Xk ?_<;>try simp|refine Xs ?_ ?_<;>intro h<;>(try intro u)<;>(try simp[h])<;>try omega|refine Xg ?_|omega);refine Yc (cm) ?_;simp;refine gh ?_;refine Yt (i) ?_;simp;refine jT s ?_
   trace_state
   refine Yt (g) ?_;simp;refine Yt (f) ?_;simp[hl,a]
def Jb{α:Type}[Inhabited α]{l:List α}{i:Int}(i0:0<=i)(a:i<l.l):l.take (i+1).n=l.take i.n ++ [gt l i]:=by rw[(U:(i+1).n=i.n+1),du,bb U,dT,<-iX i0 a]
def aeM(n:Nat)(h0:0<n)(a:n<=4000000000):Wf T 277 [.gi,.i n] [] λd H=>d = .gf 0 0 1 0 0/\H = [.row 5 0 (cl fU (zs n))]:=by refine Yg Kg ?_;simp[Kg];(with_reducible repeat' first|refine Xk ?_<;>try simp|refine Xs ?_ ?_<;>intro h<;>(try intro b)<;>(try simp[h])<;>try omega|refine Xg ?_|omega);rw[<-zx,vb,eV]
def Wq(L:List (List Int))(hl:0<L.l)(v:L.l<=1000)(n:Nat)(k:n=L.flatten.l)(h0:0<n)(u:n<=4000000000):Wf T 224 [pk L] [] λd H=>d = .gf 0 L.l 1 0 n/\H = [.row 5 L.l (cl fU L.flatten)]:=by
 have b:∀i:Nat,(L.take i).flatten.l<=n:=λi=>by
  have:L.flatten=(L.take i).flatten++(L.drop i).flatten:=by rw[<-eM,bV]
  rw[k,this,aq];omega
 refine Yg J' ?_;simp[J'];refine gx.e (0:Int) (λy=>[(0,pk L),(3,.i (((L.take y.n).flatten.l:Nat):Int)),(9,pk L),(10,.i L.l),(11,.i y)]) (λy=>[]) (λy=>0<=y/\y<=L.l) (λy=>(L.l-y).n) ?_ ?_
 .simp
 rintro i ⟨i0,q⟩;have r:=b i.n
 by_cases hi:i<L.l
 .have e:=Jb (l:=L) i0 hi;have p:=b (i+1).n;have c:(L.take (i+1).n).flatten.l=(L.take i.n).flatten.l+(gt L i).l:=by rw[e];simp
  simp only[hi];generalize (L.take i.n).flatten.l=a at *;simp[hi];(with_reducible repeat' first|refine Xk ?_<;>try simp|refine Xs ?_ ?_<;>intro h<;>(try intro w)<;>(try simp[h])<;>try omega|refine Xg ?_|omega);refine LJ.i (i+1) (by first|rfl|simp[c]) (by first|rfl|simp[c]) rfl rfl ?_;omega
 .have j:i=L.l:=by omega
  subst j;have s:L.take (L.l:Int).n=L:=af U;rw[s,<-k];simp;refine Yn (aeM n h0 u) ?_;simp;refine gx.e ((0,zs n):Int×List Int) (λy=>[(6,.gf 0 y.1.n 1 0 (L.take y.1.n).flatten.l),(25,pk L),(26,.i L.l),(27,.i y.1)]) (λy=>[.row 5 y.1.n (cl fU y.2)]) (λy=>(0<=y.1/\y.1<=L.l)/\(y.1=0\/y.2=(L.take y.1.n).flatten)) (λy=>(L.l-y.1).n) ?_ ?_
  .simp
  rintro⟨i,R⟩ ⟨⟨i0,q⟩,m⟩;dsimp only at i0 q m ⊢;have r:=b i.n
  by_cases hi:i<L.l
  .have e:=Jb (l:=L) i0 hi;have p:=b (i+1).n;have c:(L.take (i+1).n).flatten=(L.take i.n).flatten++gt L i:=by rw[e];simp
   have f:R.take (L.take i.n).flatten.l=(L.take i.n).flatten:=jS;have o:(L.take i.n).flatten.l<=R.l:=jS;have g:(L.take (i+1).n).flatten.l=(L.take i.n).flatten.l+(gt L i).l:=by rw[c,aq]
   rw[(U:(i+1).n=i.n+1)]at p c g;obtain⟨a,t⟩:∃a,(L.take i.n).flatten=a:=⟨_,rfl⟩;rw[t]at r f o g c ⊢;simp[hi,o,f];refine kP o f ?_;refine LJ.i (i+1,a++gt L i) (by first|rfl|simp[-ek,g,c,f,(U:(i+1).n=i.n+1)]) (by first|rfl|simp[-ek,g,c,f,(U:(i+1).n=i.n+1)]) rfl rfl ?_;exact⟨U,iM,.inr (by rw[(U:(i+1).n=i.n+1)];exact c.symm)⟩
  .have j:i=L.l:=by omega
   subst j;rw[s]at m ⊢;rcases m with h|rfl
   .omega
   simp[<-k]
def aeu:(er 65).all (λn=>Nat.ble n 1||decide (rI (run T [] 40 157 [.i n] [])=dr (s5 n)))=true:=gu
def aet(n:Nat)(h0:2<=n)(h1:n<=64):Wf T 157 [.i n] [] (Is (.i (s5 n))):=by
 have h:=aeu;rw[en]at h;have h:=h n (bp.2 U);rw[bX,decide_eq_true_eq]at h;rcases h with h|h
 .exact absurd (c8 h) U
 .exact pc (aat h)
@[simp] theorem atJ(l:List Int):oX (cl fU l)=true:=by
 rw[<-zx]
 induction l with
 | nil=>rfl
 | cons a r b=>exact b
def QD(ρ:Nat->Option Nat)(H:gd)(k t:Nat)(a:D):mT ρ H k 1 0 1 (dr (t,[a])) = .sl 1 [[gw ρ H k a]]:=n9
def WX(ρ:Nat->Option Nat)(H:gd)(k t:Nat)(a b:D):mT ρ H k 1 0 2 (dr (t,[a,b])) = .sl 1 [[gw ρ H k a],[gw ρ H k b]]:=by unfold mT;simp[chunks]
def WY(ρ:Nat->Option Nat)(H:gd)(k t:Nat)(a b c:D):mT ρ H k 1 0 3 (dr (t,[a,b,c])) = .sl 1 [[gw ρ H k a],[gw ρ H k b],[gw ρ H k c]]:=by unfold mT;simp[chunks]
def aes(b:List Int)(f:b.l<=3000000000):Wf T 156 [dU b] [] (Is (.agg (cl fU (kH (0::b))))):=by have c:=Wj (0::b) gL;have a:=Wq [[0],b] fZ fZ (b.l+1) fZ U U;have hl:=rE (0::b);obtain⟨r,e⟩:∃r,kH (0::b)=r:=⟨_,rfl⟩;rw[e]at c hl ⊢;have d:r.take 32=r:=af U;rw[(fZ:[[0],b].flatten=0::b)]at a;refine Yg JZ ?_;simp[JZ];refine gy.nr rfl rfl a (by simp[DC,x4,QD,WX,WY]) fZ fZ ?_;simp;refine gy.r rfl rfl c (by simp[x4]) (by simp[flat]) fZ ?_;simp[hl,d]
def wT.r{T:iF}{f:FuncId}{fn:jq}{args nM:List D}{dst:Option Nat}{s:St}{R:List Fp}{Q:Rc->St->Prop}{d:D}{ob:Ob}(b:T.fn f=dr fn)(a:fn.full=false)(h:Wf T f nM [] λd' H'=>d'=d/\H' = [ob])
  (hs:args.map (gw (λ_=>none) s.H 40)=nM) (e:(oR d&&pv ob)=true) (c:(mL d&&nN ob)=true) (k:Q ⟨R,[(s.H.l,none)]⟩ { s with env:=put s.env dst (kE s.H.l d),H:=s.H ++ [ob] }):pK T f args R dst s Q .mk:=
 .inl (.inr ⟨fn,d,ob,b,a,by rw[hs];exact h,by split<;>assumption,k⟩)
def aev(a b:List Int)(e:a.l=32)(d:b.l=32):Wf T 158 [.agg (cl fU a),.agg (cl fU b)] [] (Is (.agg (cl fU (kH (1::(a++b)))))):=by have c:=Wj (1::(a++b)) gL;have f:=Wq [[1],a,b] fZ fZ 65 gL U U;rw[(fZ:[[1],a,b].flatten=1::(a++b))]at f;have hl:=rE (1::(a++b));obtain⟨r,i⟩:∃r,kH (1::(a++b))=r:=⟨_,rfl⟩;rw[i]at c hl ⊢;have h:r.take 32=r:=af U;have g:a.take 32=a:=af U;have j:b.take 32=b:=af U;refine Yg J0 ?_;simp[J0,e,d,g,j];refine wT.r rfl rfl f (by simp[DC,x4,QD,WX,WY,e,d]) fZ fZ ?_;simp;refine iZ.r rfl rfl c (by simp only[ep,List.map_nil,AL.TH,aaZ];simp only[anp];simp;rw[vx (k:=38) gL];rfl) (by simp[flat]) fZ ?_;simp[hl,h]
theorem Ql:∀(k:Nat) (l:List (List Int)),l.l<k->0<l.l->l.l<=64->(∀x∈l,x.l<=3000000000)->Wf T 97 [pk l] [] (Is (.agg (cl fU (oS k l))))
 | 0,l,h,_,_,_=>U
 | k+1,l,hk,h0,GZ,hx=>by
  by_cases h1:l.l=1
  .obtain⟨x,rfl⟩:∃x,l = [x]:=by
    match l,h1 with
    | [x],_=>exact⟨x,rfl⟩
   rw[Tu];have c:=aes x (hx x fZ);have hl:=rE (0::x);obtain⟨r,b⟩:∃r,kH (0::x)=r:=⟨_,rfl⟩;rw[b]at c hl ⊢;have a:r.take 32=r:=af U;refine Yg zf ?_;simp[zf];refine Yc (c) ?_;simp[hl,a]
  .have o:=Vz (n:=l.l) U;have cm:=aet l.l U GZ;rw[Tv k U];obtain⟨m,j⟩:∃m,s5 l.l=m:=⟨_,rfl⟩;rw[j]at o cm ⊢;have v:(l.take m).l=m:=by rw[aJ];omega
   have t:(l.drop m).l=l.l-m:=by rw[aU]
   have i:=Ql k (l.take m) U U U λx h=>hx x (aX h);have g:=Ql k (l.drop m) U U U λx h=>hx x (bt h);have e:=IU (k:=k) (l:=l.take m) U;have d:=IU (k:=k) (l:=l.drop m) U;obtain⟨A,q⟩:∃A,oS k (l.take m)=A:=⟨_,rfl⟩;obtain⟨B,p⟩:∃B,oS k (l.drop m)=B:=⟨_,rfl⟩;rw[q]at i e ⊢;rw[p]at g d ⊢;have f:=aev A B e d;have hl:=rE (1::(A++B));obtain⟨r,b⟩:∃r,kH (1::(A++B))=r:=⟨_,rfl⟩;rw[b]at f hl ⊢;have a:r.take 32=r:=af U;have n0:¬l.l=0:=U;have s:(l.drop m).take (l.l-m)=l.drop m:=af U;refine Yg zf ?_;simp[zf,n0,h1];(with_reducible repeat' first|refine Xk ?_<;>try simp|refine Xs ?_ ?_<;>intro h<;>(try intro u)<;>(try simp[h])<;>try omega|refine Xg ?_|omega);refine Yc (cm) ?_;simp;refine gh ?_;refine Yt (i) ?_;simp;refine jT s ?_;refine Yt (g) ?_;simp;refine Yt (f) ?_;simp[hl,a]
