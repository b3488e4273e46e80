/- Part 43 of DisputeLocal. -/
import Derived.Test.YtmehofoficaelaaGreatDoorL42
set_option linter.all false
namespace Go.AL
open Go
@[irreducible] def fW(n:Int):List D:=[.val (.int .u32 n)]
@[simp] theorem PF(n:Int):fW n = [.val (.int .u32 n)]:=by unfold fW;rfl
instance:Fl fW 1:=⟨fun _=>by simp,fun _=>by simp[fE]⟩
@[simp] theorem anX{l:List Int}{n:Int}{P:D→Prop}:oA (cl fW l)[n.toNat]? P .mk=(n.toNat<l.length∧P (.val (.int .u32 (gt l n)))):=by
 have:=GC (f:=fW) (l:=l) (n:=n) (j:=0) (by decide) (P:=P)
 simpa using this
def zd(l:List Int):(l.map fun n=>D.val (.int .u32 n))=cl fW l:=by
 rw[nI]
 induction l with
 | nil=>rfl
 | cons a r ih=>simp[ih]
def zc(l:List Int):(l.map fun n=>D.val (.int .u8 n))=cl fU l:=by
 rw[nI]
 induction l with
 | nil=>rfl
 | cons a r ih=>simp[ih]
@[irreducible] def zs(n:Nat):List Int:=List.replicate n 0
theorem tI(n:Nat):zs n=List.replicate n 0:=by unfold zs;rfl
@[simp] theorem arR(n:Nat):(zs n).length=n:=by rw[tI,eJ]
@[simp] theorem arQ(n:Nat):(zs n).drop n = []:=bL (by simp)
theorem fh.st{T:gP}{live:List Nat}{a:IR}{s s':St}{K:iv}(hs:s=s')(h:fh T live a s' K .mk):fh T live a s K .mk:=by subst hs;exact h
@[simp] theorem ajb(n:Nat):Zw n=cl fW (zs n):=by rw[← zd,tI,dT];rfl
@[simp] theorem aja(n:Nat):Zb n=cl fU (zs n):=by rw[← zc,tI,dT];rfl
@[simp] theorem akG(a b:List Int)(n:Int):cl fW a ++ .val (.int .u32 n)::cl fW b=cl fW (a++n::b):=by rw[← ze,na,PF];rfl
@[simp] theorem UP(l:List Int)(n:Int):cl fU l ++ [.val (.int .u8 n)]=cl fU (l ++ [n]):=by rw[← oR,zn]
@[simp] theorem aar{l:List Int}{n:Int}{P:D→Prop}:oA (cl fU l)[n.toNat]? P .mk=(n.toNat<l.length∧P (.val (.int .u8 (gt l n)))):=by
 have:=GC (f:=fU) (l:=l) (n:=n) (j:=0) (by decide) (P:=P)
 simpa using this
@[simp] theorem ajn(a b:Int):jl .add .u32 a b=some (.val (.int .u32 (Proofs.YtmehofoficaelaaGreatDoor.ad a b))):=rfl
@[simp high] theorem amW(n:Nat)(t:TypeId)(l:List Int):ry n 0 (some (t,cl fW l))=if n≤l.length then some (.agg (cl fW (l.take n)))else none:=by
 show(if 0+n≤(cl fW l).length then some (D.agg (((cl fW l).drop 0).take n))else none)=_
 rw[sS,cI,aR,dj,OS]
@[simp high] theorem amV(n:Nat)(t:TypeId)(l:List Int):ry n 0 (some (t,cl fU l))=if n≤l.length then some (.agg (cl fU (l.take n)))else none:=by
 show(if 0+n≤(cl fU l).length then some (D.agg (((cl fU l).drop 0).take n))else none)=_
 rw[sS,cI,aR,dj,OS]
@[simp] theorem aj1(t:TypeId)(m:Int)(n:Nat):qq t (.val (.int .u32 m)) n=some (.ptr n 0 0,.new (.row t 0 [.val (.int .u32 m)])):=rfl
@[simp] theorem ald(sz v g off len:Nat)(y:D)(H:U):vu sz (.eX v g sz off len) y H=(j' sz H y).bind fun q=>(rowAt H v g).bind fun r=>if (off+len)*sz≤r.2.length then some (.i (min q.2 len:Nat),.obj v (.row r.1 g (r.2.take (off*sz)++q.1.take (min q.2 len*sz)++r.2.drop (off*sz+min q.2 len*sz))))else none:=by
 simp only[vu]
 cases j' sz H y with
 | none=>rfl
 | some q=>
  dsimp only
  cases rowAt H v g with
  | none=>rfl
  | some p=>simp
def cB(l:List Int):D:=.lA (l.map fun n=>Value.int .u8 n)
@[simp] theorem U0(l:List Int):closed (cB l)=true:=rfl
theorem TD:∀ l:List Int,Az (l.map fU)=some (l.map fun n=>Value.int .u8 n)
 | []=>rfl
 | a::r=>by
  rw[List.map_cons,zn]
  unfold Az
  rw[TD r]
  rfl
@[simp] theorem UT(l:List Int):clip 1 (l.map fU)=cB l:=by unfold clip;rw[TD];rfl
@[simp] theorem an3{l:List Int}{n:Int}{k:IntKind}{P:D→Prop}:oA (mz 1 (cB l) (.val (.int k n))) P .mk=((0≤n∧n<l.length)∧P (.fj [.val (.int .u8 (gt l n))])):=by
 unfold cB
 rw[Y1,yh,wj,List.length_map]
 refine propext ⟨fun⟨h,hp⟩=>⟨h,?_⟩,fun⟨h,hp⟩=>⟨h,?_⟩⟩
 ·rw[List.getD_eq_getElem?_getD,aq,List.getElem?_eq_getElem (by omega),aH,aL]at hp
  rw[kl h.1 h.2];exact hp
 ·rw[List.getD_eq_getElem?_getD,aq,List.getElem?_eq_getElem (by omega),aH,aL]
  rw[kl h.1 h.2]at hp;exact hp
@[simp] theorem aqJ(n:Nat)(l:List Int):iH n (cB l) = []:=rfl
@[simp] theorem ake(l:List Int):cellsOf (cB l)=some [cB l]:=rfl
@[simp] theorem aoI(l:List Int):one (cB l)=true:=rfl
@[simp] theorem arc(l:List Int):mh (cB l) = []:=rfl
@[simp] theorem ajf(t bytes:Nat)(l:List Int)(y:D)(H:U)(vn:Nat):pX t 1 bytes (cB l) y H vn=(j' 1 H y).bind fun q=>if q.2≠0∧(l.length+q.2)*bytes≤140737488355328∧l.length+q.2≤9223372036854775807 then some (.eX vn 0 1 0 (l.length+q.2),.new (.row t 0 (cl fU l++q.1)))else none:=by
 unfold cB
 rw[Ub,List.length_map,cv,← zc]
 rfl
def ZE:zy=cl fW Proofs.YtmehofoficaelaaGreatDoor.v8:=zd _
def Un:zw=cl fW Proofs.YtmehofoficaelaaGreatDoor.BH:=zd _
end Go.AL
namespace Go.Proofs.YtmehofoficaelaaGreatDoor
open Go Go.AL Classical
set_option maxRecDepth 10000
set_option maxHeartbeats 4000000
def afL:∀ m:Nat,m<31→bits .and .u64 (IntKind.u64.wrap (-((m:Int)+1))) 31=32-((m:Int)+1)∧IntKind.u64.wrap (32-(32-((m:Int)+1)))=(m:Int)+1:=by decide
def ae2(a b:Int):bits .or .u32 a b=bits .or .u32 b a:=by simp only[bits,BitVec.or_comm]
def Bx(x n:Int)(hn:1≤n∧n≤31):Wf T 292 [.val (.int .u32 x),.i (-n)] [] (Is (.val (.int .u32 (tn n x)))):=by
 obtain⟨h1,h2⟩:=afL (n-1).toNat (by omega)
 rw[show(((n-1).toNat:Nat):Int)+1=n by omega]at h1 h2
 have e:bits .or .u32 (uR .u32 x (32-n)) (mA .u32 x n)=tn n x:=ae2 _ _
 refine Yg En ?_
 simp[En,h1,h2,jl,e]
 (with_reducible repeat' first|refine Xk ?_<;>try simp|refine Xs ?_ ?_<;>intro h<;>(try intro h')<;>(try simp[h])<;>try omega|refine Xg ?_|omega)
def J3(x n:Int)(hn:1≤n∧n≤31):Wf T 293 [.i n,.fj [.val (.int .u32 x)]] [] (Is (.val (.int .u32 (tn n x)))):=by
 refine Yg Eo ?_
 simp[Eo]
 (with_reducible repeat' first|refine Xk ?_<;>try simp|refine Xs ?_ ?_<;>intro h<;>(try intro h')<;>(try simp[h])<;>try omega|refine Xg ?_|omega)
 refine Yc (Bx x n hn) ?_
 simp
def PA(x a b c:Int)(ha:1≤a∧a≤31)(hb:1≤b∧b≤31)(hc:1≤c∧c≤31):Wf T 276 [.val (.int .u32 x),.i a,.i b,.i c] [] (Is (.val (.int .u32 (mx x a b c)))):=by
 refine Yg Ej ?_
 simp[Ej]
 refine Yr (J3 x a ha) ?_
 simp
 refine Yr (J3 x b hb) ?_
 simp
 refine Yr (J3 x c hc) ?_
 simp
 rfl
def sW(x n:Int)(hn:1≤n∧n≤31):Wf T 258 [.i n,.val (.int .u32 x)] [] (Is (.val (.int .u32 (tn n x)))):=by
 refine Yg Ee ?_
 simp[Ee]
 (with_reducible repeat' first|refine Xk ?_<;>try simp|refine Xs ?_ ?_<;>intro h<;>(try intro h')<;>(try simp[h])<;>try omega|refine Xg ?_|omega)
 rfl
@[simp] theorem ara(b:List Int):w1 b 0=zs 64:=by rw[w1,Jc,tI]
theorem TF(b:List Int)(n:Nat):w1 b (n+1)=wp (w1 b n) n (IntKind.u32.wrap (gt b n)):=by rw[w1,w1,Jc]
@[simp] theorem agJ(w:List Int):w2 w 0=w:=by rw[w2,Je]
theorem TH(w:List Int)(n:Nat):w2 w (n+1)=wn (w2 w n) (n+16):=by rw[w2,w2,Je]
theorem AA(b:List Int):∀ n:Nat,n≤64→(w1 b n).length=64
 | 0,_=>by simp
 | n+1,h=>by
  rw[TF,wp,il (by omega) (by rw[AA b n (by omega)];omega),AA b n (by omega)]
theorem Dz{w:List Int}(h:w.length=64):∀ m:Nat,m≤48→(w2 w m).length=64
 | 0,_=>by rw[agJ];exact h
 | m+1,hm=>by
  rw[TH,wn,il (by omega) (by rw[Dz h m (by omega)];omega),Dz h m (by omega)]
def TG{b:List Int}{i:Int}(i0:0≤i):w1 b (i+1).toNat=pt (w1 b i.toNat) (i / 4) (bits .or .u32 (uR .u32 (gt (w1 b i.toNat) (i / 4)) 8) (IntKind.u32.wrap (gt b i))):=by
 rw[show(i+1).toNat=i.toNat+1 by omega,TF,wp,show((i.toNat / 4:Nat):Int)=i / 4 by omega,show((i.toNat:Nat):Int)=i by omega]
def TI{w:List Int}{i:Int}(i0:16≤i):w2 w (i+1-16).toNat=pt (w2 w (i-16).toNat) i (ad (ad (ad (gt (w2 w (i-16).toNat) (i-16)) (gt (w2 w (i-16).toNat) (i-7)))
  (xr (xr (tn 7 (gt (w2 w (i-16).toNat) (i-15))) (tn 18 (gt (w2 w (i-16).toNat) (i-15)))) (mA .u32 (gt (w2 w (i-16).toNat) (i-15)) 3)))
  (xr (xr (tn 17 (gt (w2 w (i-16).toNat) (i-2))) (tn 19 (gt (w2 w (i-16).toNat) (i-2)))) (mA .u32 (gt (w2 w (i-16).toNat) (i-2)) 10))):=by
 rw[show(i+1-16).toNat=(i-16).toNat+1 by omega,TH,wn]
 rw[show(((i-16).toNat+16:Nat):Int)=i by omega,show(((i-16).toNat+16-16:Nat):Int)=i-16 by omega,show(((i-16).toNat+16-7:Nat):Int)=i-7 by omega,
  show(((i-16).toNat+16-15:Nat):Int)=i-15 by omega,show(((i-16).toNat+16-2:Nat):Int)=i-2 by omega]
def M6(b:List Int):rE b=w2 (w1 b 64) 48:=by rw[rE]
def Tp(b:List Int):(rE b).length=64:=by rw[M6];exact Dz (AA b 64 (Nat.le_refl _)) 48 (Nat.le_refl _)
def Wb(b:List Int)(hb:b.length=64):Wf T 275 [cB b] [] (Is (.agg (cl fW (rE b)))):=by
 obtain⟨W,hW⟩:∃ W,rE b=W:=⟨_,rfl⟩
 rw[hW]
 rw[M6]at hW
 refine Yg Ei ?_
 simp[Ei]
 refine fh.e ((0,zs 64):Int×List Int) (fun y=>[(0,cB b),(2,.ptr 0 0 0),(3,.ptr 1 0 0),(10,.i y.1)]) (fun y=>[.row 375 0 (cl fW (zs 64)),.row 375 0 (cl fW y.2)]) (fun y=>(0≤y.1∧y.1≤64)∧y.2=w1 b y.1.toNat) (fun y=>(64-y.1).toNat) ?_ ?_
 ·simp
 rintro⟨i,w⟩ ⟨⟨i0,i1⟩,hw⟩
 dsimp only at i0 i1 hw ⊢
 have hl:w.length=64:=by rw[hw];exact AA b i.toNat (by omega)
 by_cases hi:i<64
 ·have hq:uN i 4=i / 4:=uO i0 (by omega) (by omega)
  have hs:=TG (b:=b) i0
  rw[← hw]at hs
  simp[hi,hq]
  (with_reducible repeat' first|refine Xk ?_<;>try simp[hq]|refine Xs ?_ ?_<;>intro h<;>(try intro h')<;>(try simp[h,hq])<;>try omega|refine Xg ?_|omega)
  refine LJ.e (i+1,pt w (i / 4) (bits .or .u32 (uR .u32 (gt w (i / 4)) 8) (IntKind.u32.wrap (gt b i)))) ?_
  exact⟨by omega,jG,hs.symm⟩
 ·have jB:i=64:=by omega
  subst jB
  simp
  refine fh.st (by simp;rfl) ?_
  refine fh.e ((16,w):Int×List Int) (fun y=>[(2,.ptr 0 0 0),(3,.ptr 1 0 0),(5,.i y.1)]) (fun y=>[.row 375 0 (cl fW (zs 64)),.row 375 0 (cl fW y.2)]) (fun y=>(16≤y.1∧y.1≤64)∧y.2=w2 w (y.1-16).toNat) (fun y=>(64-y.1).toNat) ?_ ?_
  ·simp
  rintro⟨i,x⟩ ⟨⟨i0,i1⟩,hx⟩
  dsimp only at i0 i1 hx ⊢
  have kD:x.length=64:=by rw[hx];exact Dz hl (i-16).toNat (by omega)
  by_cases hi:i<64
  ·have hs:=TI (w:=w) i0
   rw[← hx]at hs
   simp[hi]
   (with_reducible repeat' first|refine Xk ?_<;>try simp|refine Xs ?_ ?_<;>intro h<;>(try intro h')<;>(try simp[h])<;>try omega|refine Xg ?_|omega)
   refine Yc (Bx _ 7 (by omega)) ?_
   simp
   refine Yc (Bx _ 18 (by omega)) ?_
   simp
   (with_reducible repeat' first|refine Xk ?_<;>try simp|refine Xs ?_ ?_<;>intro h<;>(try intro h')<;>(try simp[h])<;>try omega|refine Xg ?_|omega)
   refine Yc (Bx _ 17 (by omega)) ?_
   simp
   refine Yc (Bx _ 19 (by omega)) ?_
   simp
   (with_reducible repeat' first|refine Xk ?_<;>try simp|refine Xs ?_ ?_<;>intro h<;>(try intro h')<;>(try simp[h])<;>try omega|refine Xg ?_|omega)
   refine LJ.i (i+1,w2 w (i+1-16).toNat) (by first|rfl|simp[hs,xr]) (by first|rfl|simp[hs,xr]) rfl rfl ?_
   exact⟨by omega,jG,rfl⟩
  ·have jB:i=64:=by omega
   subst jB
   have e:x=W:=by rw[hx,← hW,hw,show((64:Int)-16).toNat=48 from rfl,show(64:Int).toNat=64 from rfl]
   subst e
   have he:x.take 64=x:=ai (by omega)
   simp[kD,he]
def V8(b:List Int)(hb:b.length=64):Wf T 256 [dU b] [] (Is (.agg (cl fW (rE b)))):=by
 obtain⟨W,hW⟩:∃ W,rE b=W:=⟨_,rfl⟩
 rw[hW]
 rw[M6]at hW
 refine Yg Ed ?_
 simp[Ed]
 refine fh.e ((0,zs 64):Int×List Int) (fun y=>[(0,dU b),(2,.ptr 0 0 0),(3,.ptr 1 0 0),(4,.i y.1)]) (fun y=>[.row 375 0 (cl fW (zs 64)),.row 375 0 (cl fW y.2)]) (fun y=>(0≤y.1∧y.1≤16)∧y.2=w1 b (4*y.1).toNat) (fun y=>(16-y.1).toNat) ?_ ?_
 ·simp
 rintro⟨i,w⟩ ⟨⟨i0,i1⟩,hw⟩
 dsimp only at i0 i1 hw ⊢
 by_cases hi:i<16
 ·simp[hi]
  refine fh.e ((0,w):Int×List Int) (fun y=>[(0,dU b),(2,.ptr 0 0 0),(3,.ptr 1 0 0),(4,.i i),(5,.i y.1)]) (fun y=>[.row 375 0 (cl fW (zs 64)),.row 375 0 (cl fW y.2)]) (fun y=>(0≤y.1∧y.1≤4)∧y.2=w1 b (4*i+y.1).toNat) (fun y=>(4-y.1).toNat) ?_ ?_
  ·simp[hw]
  rintro⟨k,u⟩ ⟨⟨k0,k1⟩,hu⟩
  dsimp only at k0 k1 hu ⊢
  have hl:u.length=64:=by rw[hu];exact AA b (4*i+k).toNat (by omega)
  by_cases hk:k<4
  ·have e:=TG (b:=b) (i:=4*i+k) (by omega)
   rw[← hu,show(4*i+k) / 4=i by omega,show 4*i+k+1=4*i+(k+1)by omega]at e
   simp[hk]
   (with_reducible repeat' first|refine Xk ?_<;>try simp|refine Xs ?_ ?_<;>intro h<;>(try intro h')<;>(try simp[h])<;>try omega|refine Xg ?_|omega)
   refine LJ.i (k+1,w1 b (4*i+(k+1)).toNat) (by first|rfl|simp[e]) (by first|rfl|simp[e]) rfl rfl ?_
   exact⟨by omega,jG,rfl⟩
  ·have KY:k=4:=by omega
   subst KY
   simp
   (with_reducible repeat' first|refine Xk ?_<;>try simp|refine Xs ?_ ?_<;>intro h<;>(try intro h')<;>(try simp[h])<;>try omega|refine Xg ?_|omega)
   refine LJ.e (i+1,u) ?_
   exact⟨by omega,jG,by rw[hu,show 4*(i+1)=4*i+4 by omega]⟩
 ·have jB:i=16:=by omega
  subst jB
  have hl:w.length=64:=by rw[hw];exact AA b _ (by omega)
  simp
  refine fh.st (by simp;rfl) ?_
  refine fh.e ((16,w):Int×List Int) (fun y=>[(2,.ptr 0 0 0),(3,.ptr 1 0 0),(6,.i y.1)]) (fun y=>[.row 375 0 (cl fW (zs 64)),.row 375 0 (cl fW y.2)]) (fun y=>(16≤y.1∧y.1≤64)∧y.2=w2 w (y.1-16).toNat) (fun y=>(64-y.1).toNat) ?_ ?_
  ·simp
  rintro⟨i,x⟩ ⟨⟨i0,i1⟩,hx⟩
  dsimp only at i0 i1 hx ⊢
  have kD:x.length=64:=by rw[hx];exact Dz hl (i-16).toNat (by omega)
  by_cases hi:i<64
  ·have hs:=TI (w:=w) i0
   rw[← hx]at hs
   simp[hi]
   (with_reducible repeat' first|refine Xk ?_<;>try simp|refine Xs ?_ ?_<;>intro h<;>(try intro h')<;>(try simp[h])<;>try omega|refine Xg ?_|omega)
   refine Yt (sW _ 7 (by omega)) ?_
   simp
   refine Yt (sW _ 18 (by omega)) ?_
   simp
   refine Yt (sW _ 17 (by omega)) ?_
   simp
   refine Yt (sW _ 19 (by omega)) ?_
   simp
   (with_reducible repeat' first|refine Xk ?_<;>try simp|refine Xs ?_ ?_<;>intro h<;>(try intro h')<;>(try simp[h])<;>try omega|refine Xg ?_|omega)
   refine LJ.i (i+1,w2 w (i+1-16).toNat) (by first|rfl|simp[hs,xr]) (by first|rfl|simp[hs,xr]) rfl rfl ?_
   exact⟨by omega,jG,rfl⟩
  ·have jB:i=64:=by omega
   subst jB
   have e:x=W:=by rw[hx,← hW,hw,show((64:Int)-16).toNat=48 from rfl,show(4*16:Int).toNat=64 from rfl]
   subst e
   have he:x.take 64=x:=ai (by omega)
   simp[kD,he]
def len8{l:List Int}(h:l.length=8):∃ a b c d e f g i,l = [a,b,c,d,e,f,g,i]:=by
 match l,h with
 | [a,b,c,d,e,f,g,i],_=>exact⟨a,b,c,d,e,f,g,i,rfl⟩
def zb(a b c d e f g i:Int):cl fW [a,b,c,d,e,f,g,i] = [.val (.int .u32 a),.val (.int .u32 b),.val (.int .u32 c),.val (.int .u32 d),.val (.int .u32 e),.val (.int .u32 f),.val (.int .u32 g),.val (.int .u32 i)]:=(zd _).symm
def afm{c:List Int}(h:c.length=8)(k w:Int):(wu c k w).length=8:=by
 obtain⟨_,_,_,_,_,_,_,_,rfl⟩:=len8 h
 rfl
def My(w c:List Int):pz w c 0=c:=by rw[pz,IC]
def SK(w c:List Int)(n:Nat):pz w c (n+1)=wu (pz w c n) (gt v8 n) (gt w n):=by rw[pz,pz,IC]
theorem Ag(w:List Int){c:List Int}(h:c.length=8):∀ n,(pz w c n).length=8
 | 0=>by rw[My];exact h
 | n+1=>by rw[SK];exact afm (Ag w h n) _ _
def SL{w c:List Int}{i:Int}(i0:0≤i):pz w c (i+1).toNat=wu (pz w c i.toNat) (gt v8 i) (gt w i):=by
 rw[show(i+1).toNat=i.toNat+1 by omega,SK,show((i.toNat:Nat):Int)=i by omega]
@[simp] theorem aph(H:U)(b:List Int):gX H 40 (cB b) = []:=by
 unfold gX
 rw[if_pos (U0 b)]
@[simp] theorem aq8(n:Int):Ax .xor (.val (.int .u32 n))=some (.val (.int .u32 (bits .xor .u32 IntKind.u32.max n))):=rfl
@[simp] theorem anY{l:List Int}{n:Int}{P:D→Prop}:oA (cl fW (l.drop n.toNat))[0]? P .mk=(n.toNat<l.length∧P (.val (.int .u32 (gt l n)))):=by
 by_cases h:n.toNat<l.length
 ·rw[bG h,na,PF]
  have:gt l n=l[n.toNat]:=by unfold gt;rw[List.getD_eq_getElem?_getD,List.getElem?_eq_getElem h];rfl
  rw[this]
  simp[h]
 ·rw[bL (by omega)]
  simp[h]
def Rl:v8.length=64:=rfl
def ZW(c s:List Int)(i:Int)(u:List Int):Prop:=u.length=8∧∀ j:Int,0≤j→gt u j=if j<i then ad (gt c j) (gt s j)else gt c j
def ZW.z{c s:List Int}(h:c.length=8):ZW c s 0 c:=⟨h,fun j j0=>by rw[if_neg (by omega)]⟩
def ZW.n{c s u:List Int}{i:Int}(h:ZW c s i u)(i0:0≤i)(i1:i<8):ZW c s (i+1) (pt u i (ad (gt u i) (gt s i))):=by
 have h1:=h.1
 refine⟨by rw[il i0 (by omega)];exact h1,fun j j0=>?_⟩
 rw[qv i0 (by omega) j0]
 have h2:=h.2 j j0
 by_cases e:j=i
 ·subst e
  rw[if_pos rfl,if_pos (by omega),h2,if_neg (by omega)]
 ·rw[if_neg e,h2]
  by_cases q:j<i
  ·rw[if_pos q,if_pos (by omega)]
  ·rw[if_neg q,if_neg (by omega)]
def ZW.e{c s u:List Int}(h:ZW c s 8 u)(hs:s.length=8)(hc:c.length=8):u=List.zipWith ad c s:=by
 have h1:=h.1
 refine ct (by rw[List.length_zipWith];omega) fun j j0 j1=>?_
 have h2:=h.2 j (by omega)
 rw[if_pos (by omega),kl (by omega) (by omega),kl (by omega) (by omega),kl (by omega) (by omega)]at h2
 rw[List.getElem_zipWith]
 exact h2
def V5(s b:List Int)(hs:s.length=8)(hb:b.length=64):Wf T 223 [.agg (cl fW s),cB b] [] (Is (.agg (cl fW (qY s b)))):=by
 have c:=Wb b hb
 have tf:=Tp b
 obtain⟨r,hr⟩:∃ r,qY s b=r:=⟨_,rfl⟩
 have mS:List.zipWith ad (pz (rE b) s 64) s=r:=by rw[← hr,qY]
 rw[hr]
 obtain⟨w,hw⟩:∃ w,rE b=w:=⟨_,rfl⟩
 rw[hw]at c tf mS
 clear hw hr
 obtain⟨K,hK⟩:∃ K,v8=K:=⟨_,rfl⟩
 have hk:K.length=64:=by rw[← hK];exact Rl
 have qh:s.take 8=s:=ai (by omega)
 refine Yg Eb ?_
 simp[Eb,ZE,hK]
 refine Yt (c) ?_
 simp[qh,hs,tf]
 refine fh.e ((0,s):Int×List Int) (fun y=>[(2,.ptr 0 0 0),(4,.ptr 1 0 0),(5,.ptr 2 0 0),(6,.ptr 3 0 0),(14,.i y.1)]) (fun y=>[.row 323 0 (cl fW s),.row 323 0 (cl fW (zs 8)),.row 375 0 (cl fW w),.row 323 0 (cl fW y.2)]) (fun y=>(0≤y.1∧y.1≤64)∧y.2=pz w s y.1.toNat) (fun y=>(64-y.1).toNat) ?_ ?_
 ·simp[My]
 rintro⟨i,c⟩ ⟨⟨i0,i1⟩,hc⟩
 dsimp only at i0 i1 hc ⊢
 by_cases hi:i<64
 ·have e:=SL (w:=w) (c:=s) i0
  rw[← hc,hK]at e
  obtain⟨c0,c1,c2,c3,c4,c5,c6,c7,h8⟩:=len8 (show c.length=8 by rw[hc];exact Ag w hs _)
  subst h8
  rw[zb]
  simp[hi]
  refine Yt (PA c4 6 11 25 (by omega) (by omega) (by omega)) ?_
  simp
  (with_reducible repeat' first|refine Xk ?_<;>try simp|refine Xs ?_ ?_<;>intro h<;>(try intro h')<;>(try simp[h])<;>try omega|refine Xg ?_|omega)
  refine Yt (PA c0 2 13 22 (by omega) (by omega) (by omega)) ?_
  simp
  (with_reducible repeat' first|refine Xk ?_<;>try simp|refine Xs ?_ ?_<;>intro h<;>(try intro h')<;>(try simp[h])<;>try omega|refine Xg ?_|omega)
  refine LJ.i (i+1,pz w s (i+1).toNat) (by first|rfl|simp[e,wu,zb,xr]) (by first|rfl|simp[e,wu,zb,xr]) rfl rfl ?_
  exact⟨by omega,jG,rfl⟩
 ·have jB:i=64:=by omega
  subst jB
  have gj:c.length=8:=by rw[hc];exact Ag w hs _
  have hz:List.zipWith ad c s=r:=by rw[hc];exact mS
  clear hc mS
  simp
  refine fh.st (by simp;rfl) ?_
  refine fh.e ((0,c):Int×List Int) (fun y=>[(2,.ptr 0 0 0),(4,.ptr 1 0 0),(6,.ptr 3 0 0),(78,.i y.1)]) (fun y=>[.row 323 0 (cl fW s),.row 323 0 (cl fW (zs 8)),.row 375 0 (cl fW w),.row 323 0 (cl fW y.2)]) (fun y=>(0≤y.1∧y.1≤8)∧ZW c s y.1 y.2) (fun y=>(8-y.1).toNat) ?_ ?_
  ·exact⟨by simp,ZW.z gj⟩
  rintro⟨i,u⟩ ⟨⟨i0,i1⟩,hu⟩
  dsimp only at i0 i1 hu ⊢
  have pn:=hu.1
  by_cases hi:i<8
  ·simp[hi]
   (with_reducible repeat' first|refine Xk ?_<;>try simp|refine Xs ?_ ?_<;>intro h<;>(try intro h')<;>(try simp[h])<;>try omega|refine Xg ?_|omega)
   refine LJ.e (i+1,pt u i (ad (gt u i) (gt s i))) ?_
   exact⟨by omega,jG,hu.n i0 hi⟩
  ·have jB:i=8:=by omega
   subst jB
   have e:u=r:=by rw[← hz];exact hu.e hs gj
   subst e
   have he:u.take 8=u:=ai (by omega)
   simp[pn,he]
def V9:Wf T 257 [] [] (Is (.agg (cl fW v8))):=by
 rw[← zd]
 exact nV (k:=20) (by kernel_rfl)
def VZ:Wf T 208 [] [] (Is (.agg (cl fW BH))):=by
 rw[← zd]
 exact nV (k:=20) (by kernel_rfl)
def V0(s b:List Int)(hs:s.length=8)(hb:b.length=64):Wf T 209 [.agg (cl fW s),dU b] [] (Is (.agg (cl fW (qY s b)))):=by
 have c:=V8 b hb
 have tf:=Tp b
 have ck:=V9
 obtain⟨r,hr⟩:∃ r,qY s b=r:=⟨_,rfl⟩
 have mS:List.zipWith ad (pz (rE b) s 64) s=r:=by rw[← hr,qY]
 rw[hr]
 obtain⟨w,hw⟩:∃ w,rE b=w:=⟨_,rfl⟩
 rw[hw]at c tf mS
 clear hw hr
 obtain⟨K,hK⟩:∃ K,v8=K:=⟨_,rfl⟩
 have hk:K.length=64:=by rw[← hK];exact Rl
 rw[hK]at ck
 have qh:s.take 8=s:=ai (by omega)
 refine Yg D7 ?_
 simp[D7]
 refine Yc (c) ?_
 simp[qh,hs,tf]
 refine Yc (ck) ?_
 simp[qh,hs,tf,hk]
 refine fh.e ((0,s):Int×List Int) (fun y=>[(2,.ptr 0 0 0),(4,.ptr 1 0 0),(5,.ptr 2 0 0),(6,.ptr 3 0 0),(7,.ptr 4 0 0),(8,.i y.1)]) (fun y=>[.row 323 0 (cl fW s),.row 323 0 (cl fW (zs 8)),.row 375 0 (cl fW w),.row 375 0 (cl fW K),.row 323 0 (cl fW y.2)]) (fun y=>(0≤y.1∧y.1≤64)∧y.2=pz w s y.1.toNat) (fun y=>(64-y.1).toNat) ?_ ?_
 ·simp[My]
 rintro⟨i,c⟩ ⟨⟨i0,i1⟩,hc⟩
 dsimp only at i0 i1 hc ⊢
 by_cases hi:i<64
 ·have e:=SL (w:=w) (c:=s) i0
  rw[← hc,hK]at e
  obtain⟨c0,c1,c2,c3,c4,c5,c6,c7,h8⟩:=len8 (show c.length=8 by rw[hc];exact Ag w hs _)
  subst h8
  rw[zb]
  simp[hi]
  refine Yt (sW c4 6 (by omega)) ?_
  simp
  refine Yt (sW c4 11 (by omega)) ?_
  simp
  refine Yt (sW c4 25 (by omega)) ?_
  simp
  (with_reducible repeat' first|refine Xk ?_<;>try simp|refine Xs ?_ ?_<;>intro h<;>(try intro h')<;>(try simp[h])<;>try omega|refine Xg ?_|omega)
  refine Yt (sW c0 2 (by omega)) ?_
  simp
  refine Yt (sW c0 13 (by omega)) ?_
  simp
  refine Yt (sW c0 22 (by omega)) ?_
  simp
  (with_reducible repeat' first|refine Xk ?_<;>try simp|refine Xs ?_ ?_<;>intro h<;>(try intro h')<;>(try simp[h])<;>try omega|refine Xg ?_|omega)
  refine LJ.i (i+1,pz w s (i+1).toNat) (by first|rfl|simp[e,wu,zb,xr,mx]) (by first|rfl|simp[e,wu,zb,xr,mx]) rfl rfl ?_
  exact⟨by omega,jG,rfl⟩
 ·have jB:i=64:=by omega
  subst jB
  have gj:c.length=8:=by rw[hc];exact Ag w hs _
  have hz:List.zipWith ad c s=r:=by rw[hc];exact mS
  clear hc mS
  simp
  refine fh.st (by simp;rfl) ?_
  refine fh.e ((0,c):Int×List Int) (fun y=>[(2,.ptr 0 0 0),(4,.ptr 1 0 0),(7,.ptr 4 0 0),(11,.i y.1)]) (fun y=>[.row 323 0 (cl fW s),.row 323 0 (cl fW (zs 8)),.row 375 0 (cl fW w),.row 375 0 (cl fW K),.row 323 0 (cl fW y.2)]) (fun y=>(0≤y.1∧y.1≤8)∧ZW c s y.1 y.2) (fun y=>(8-y.1).toNat) ?_ ?_
  ·exact⟨by simp,ZW.z gj⟩
  rintro⟨i,u⟩ ⟨⟨i0,i1⟩,hu⟩
  dsimp only at i0 i1 hu ⊢
  have pn:=hu.1
  by_cases hi:i<8
  ·simp[hi]
   (with_reducible repeat' first|refine Xk ?_<;>try simp|refine Xs ?_ ?_<;>intro h<;>(try intro h')<;>(try simp[h])<;>try omega|refine Xg ?_|omega)
   refine LJ.e (i+1,pt u i (ad (gt u i) (gt s i))) ?_
   exact⟨by omega,jG,hu.n i0 hi⟩
  ·have jB:i=8:=by omega
   subst jB
   have e:u=r:=by rw[← hz];exact hu.e hs gj
   subst e
   have he:u.take 8=u:=ai (by omega)
   simp[pn,he]
@[simp] theorem aqw(H:U)(l:List Int):j' 1 H (dU l)=some (cl fU l,l.length):=by unfold dU;exact Ap ..
theorem T1(n:Nat):zs n ++ [0]=zs (n+1):=by rw[tI,tI,List.replicate_succ']
@[simp] theorem arP:zs 0 = []:=by rw[tI];rfl
theorem Uk(n:Int):(Ba n).length=8:=rfl
def Oz(n:Int){i:Int}(i0:0≤i)(i1:i<8):gt (Ba n) i=IntKind.u8.wrap (mA .u64 n (56-8*i)):=by
 have:i=0∨i=1∨i=2∨i=3∨i=4∨i=5∨i=6∨i=7:=by omega
 rcases this with rfl|rfl|rfl|rfl|rfl|rfl|rfl|rfl<;>rfl
def Tz{l:List Int}{i:Int}(i0:0≤i)(i1:i<l.length):l.take (i+1).toNat=l.take i.toNat ++ [gt l i]:=by
 rw[show(i+1).toNat=i.toNat+1 by omega,dm,List.getElem?_eq_getElem (by omega),dh,← kl i0 i1]
@[simp] theorem ajv(a b:Int):jl .mul .u64 a b=some (.val (.int .u64 (IntKind.u64.wrap (a*b)))):=rfl
theorem wrap_u64{s:Int}(h0:0≤s)(h1:s<9223372036854775808):IntKind.u64.wrap s=s:=by
 show s % 18446744073709551616=s
 omega
def VY(b:List Int)(h9:b.length≤4000000000):Wf T 207 [dU b] [] (Is (dU (pad b))):=by
 obtain⟨B,hB⟩:∃ B,Ba (8*b.length)=B:=⟨_,rfl⟩
 have W9:B.length=8:=by rw[← hB];rfl
 have Kr:∀ i:Int,0≤i→i<8→gt B i=IntKind.u8.wrap (mA .u64 (8*b.length) (56-8*i)):=fun i i0 i1=>by rw[← hB];exact Oz _ i0 i1
 obtain⟨p,hp⟩:∃ p,Iy b.length=p:=⟨_,rfl⟩
 have iP:p=63-(b.length+8) % 64:=by rw[← hp];rfl
 have hP:pad b=b++128::zs p++B:=by rw[pad,hB,hp,tI];simp
 obtain⟨C,hC⟩:∃ C,b++128::zs p=C:=⟨_,rfl⟩
 rw[hP,hC]
 clear hP hB hp
 have hw:IntKind.u64.wrap (b.length:Int)=b.length:=wrap_u64 (by omega) (by omega)
 have nh:IntKind.u64.wrap (8*(b.length:Int))=8*b.length:=wrap_u64 (by omega) (by omega)
 refine Yg D6 ?_
 simp[D6]
 (with_reducible repeat' first|refine Xk ?_<;>try simp|refine Xs ?_ ?_<;>intro h<;>(try intro h')<;>(try simp[h])<;>try omega|refine Xg ?_|omega)
 refine fh.e ((2,b ++ [128]):Nat×List Int) (fun y=>[(0,dU b),(3,.eX 0 y.1 1 0 y.2.length)]) (fun y=>[.row 5 y.1 (cl fU y.2),.row 5 0 [.val (.int .u8 128)]]) (fun y=>∃ k:Nat,k≤p∧y.2=b++128::zs k) (fun y=>b.length+1+p-y.2.length) ?_ ?_
 ·exact⟨0,by omega,by simp⟩
 rintro⟨g,q⟩ ⟨k,k0,ho⟩
 dsimp only at k0 ho ⊢
 have La:q.length=b.length+1+k:=by rw[ho];simp;omega
 have hq:fq ((q.length:Int)+8) 64=((q.length:Int)+8) % 64:=jT (by omega)
 by_cases hk:k<p
 ·have h1:¬ ((q.length:Int)+8) % 64=0:=by omega
  have hn:q ++ [0]=b++128::zs (k+1):=by rw[ho,← T1];simp
  simp[hq,h1]
  (with_reducible repeat' first|refine Xk ?_<;>try simp[hq]|refine Xs ?_ ?_<;>intro h<;>(try intro h')<;>(try simp[h,hq])<;>try omega|refine Xg ?_|omega)
  refine LJ.e (g+1,q ++ [0]) ?_
  exact⟨by simp;omega,k+1,hk,hn⟩
 ·have ri:k=p:=by omega
  subst ri
  have h1:((q.length:Int)+8) % 64=0:=by omega
  rw[hC]at ho
  subst ho
  simp[hq,h1,hw,nh]
  (with_reducible repeat' first|refine Xk ?_<;>try simp[hw,nh]|refine Xs ?_ ?_<;>intro h<;>(try intro h')<;>(try simp[h,hw,nh])<;>try omega|refine Xg ?_|omega)
  refine fh.e ((0,g,q):Int×Nat×List Int) (fun y=>[(3,.eX 0 y.2.1 1 0 y.2.2.length),(4,.val (.int .u64 (8*b.length))),(5,.i y.1)]) (fun y=>[.row 5 y.2.1 (cl fU y.2.2),.row 5 0 [.val (.int .u8 128)]]) (fun y=>(0≤y.1∧y.1≤8)∧y.2.2=q++B.take y.1.toNat) (fun y=>(8-y.1).toNat) ?_ ?_
  ·simp
  rintro⟨i,g1,u⟩ ⟨⟨i0,i1⟩,hu⟩
  dsimp only at i0 i1 hu ⊢
  have pn:u.length=q.length+i.toNat:=by rw[hu];simp;omega
  by_cases hi:i<8
  ·have e:=Tz (l:=B) i0 (by omega)
   rw[Kr i i0 hi]at e
   simp[hi]
   (with_reducible repeat' first|refine Xk ?_<;>try simp|refine Xs ?_ ?_<;>intro h<;>(try intro h')<;>(try simp[h])<;>try omega|refine Xg ?_|omega)
   refine LJ.e (i+1,g1+1,u ++ [IntKind.u8.wrap (mA .u64 (8*b.length) (56-8*i))]) ?_
   exact⟨by omega,jG,by rw[e,hu,aZ]⟩
  ·have jB:i=8:=by omega
   subst jB
   have e:u=q++B:=by rw[hu,ai (by omega)]
   subst e
   simp
   (with_reducible repeat' first|refine Xk ?_<;>try simp|refine Xs ?_ ?_<;>intro h<;>(try intro h')<;>(try simp[h])<;>try omega|refine Xg ?_|omega)
   rw[w8,List.map_append]
@[simp] theorem aqo(f:gd)(l:List Int)(lo hi:Option X):qS f 1 (dU l) lo hi=(gy f lo 0).bind fun a=>(gy f hi l.length).bind fun h=>if 0≤a∧a≤h∧h≤l.length then some (dU ((l.drop a.toNat).take (h.toNat-a.toNat)))else none:=by
 unfold dU;rw[M0,List.length_map];simp only[IV]
def ae6(b:List Int):(pad b).length % 64=0∧(pad b).length≤b.length+73:=by
 rw[pad]
 have h:Iy b.length=63-(b.length+8) % 64:=rfl
 have h2:=Uk (8*b.length)
 simp only[az,aO,eJ,h2]
 omega
def Jn{s b:List Int}(h:s.length=8):(qY s b).length=8:=by
 rw[qY,List.length_zipWith,Ag _ h];omega
def Js(b s:List Int):pY b s 0=s:=by rw[pY,Gn]
def Jt(b s:List Int)(n:Nat):pY b s (n+1)=qY (pY b s n) ((b.drop (64*n)).take 64):=by rw[pY,pY,Gn]
theorem Gm(b:List Int){s:List Int}(h:s.length=8):∀ n,(pY b s n).length=8
 | 0=>by rw[Js];exact h
 | n+1=>by rw[Jt];exact Jn (Gm b h n)
def Iw(s:List Int):(yj s).length=32:=by rw[yj,List.length_map];rfl
def Sw(s:List Int){i:Int}(i0:0≤i)(i1:i<32):gt (yj s) i=IntKind.u8.wrap (mA .u32 (gt s (i / 4)) (24-8*(i % 4))):=by
 have hl:(upto 32).length=32:=rfl
 rw[kl i0 (by rw[Iw];omega)]
 have e:(upto 32)[i.toNat]'(by omega)=i:=by
  unfold upto
  simp
  omega
 simp only[yj,List.getElem_map,e]
def Px(b:List Int)(h9:b.length≤4000000000):Wf T 141 [dU b] [] (Is (.agg (cl fU (l3 b)))):=by
 have cp:=VY b h9
 have cf:=VZ
 have iP:=ae6 b
 obtain⟨P,hP⟩:∃ P,pad b=P:=⟨_,rfl⟩
 obtain⟨S,hS⟩:∃ S,BH=S:=⟨_,rfl⟩
 have xu:S.length=8:=by rw[← hS];rfl
 obtain⟨r,hr⟩:∃ r,l3 b=r:=⟨_,rfl⟩
 have mS:yj (pY P S (P.length / 64))=r:=by rw[← hr,l3,hP,hS]
 rw[hP]at cp iP
 rw[hS]at cf
 rw[hr]
 clear hP hS hr
 refine Yg D0 ?_
 simp[D0]
 refine Yc (cp) ?_
 simp
 refine Yc (cf) ?_
 simp[xu]
 refine fh.e ((0,S):Int×List Int) (fun y=>[(2,.ptr 0 0 0),(3,dU P),(4,.ptr 1 0 0),(5,.i y.1)]) (fun y=>[.row 70 0 (cl fU (zs 32)),.row 323 0 (cl fW y.2)]) (fun y=>∃ n:Nat,y.1=64*n∧y.1≤P.length∧y.2=pY P S n) (fun y=>(P.length+64-y.1).toNat) ?_ ?_
 ·exact⟨0,by simp,by simp,by simp[Js]⟩
 rintro⟨i,s⟩ ⟨n,fM,i1,hs⟩
 dsimp only at fM i1 hs ⊢
 have qf:s.length=8:=by rw[hs];exact Gm P xu n
 by_cases hi:i<P.length
 ·have qh:s.take 8=s:=ai (by omega)
  have lR:((P.drop i.toNat).take 64).length=64:=by rw[aI,aX];omega
  have e:=Jt P S n
  rw[← hs,show 64*n=i.toNat by omega]at e
  have e6:(i+64).toNat-i.toNat=64:=by omega
  obtain⟨B,hB⟩:∃ B,(P.drop i.toNat).take 64=B:=⟨_,rfl⟩
  rw[hB]at lR e
  have c:=V0 s B qf lR
  have gu:=Jn (s:=s) (b:=B) qf
  obtain⟨A,hA⟩:∃ A,qY s B=A:=⟨_,rfl⟩
  rw[hA]at c e gu
  simp[hi,qf,qh]
  (with_reducible repeat' first|refine Xk ?_<;>try simp[qf,qh,e6]|refine Xs ?_ ?_<;>intro h<;>(try intro h')<;>(try simp[h,qf,qh,e6])<;>try omega|refine Xg ?_|omega)
  rw[e6,hB]
  have pg:s.drop 8 = []:=bL (by omega)
  refine Yt (c) ?_
  simp[gu,qf,qh]
  (with_reducible repeat' first|refine Xk ?_<;>try simp|refine Xs ?_ ?_<;>intro h<;>(try intro h')<;>(try simp[h])<;>try omega|refine Xg ?_|omega)
  refine LJ.i (i+64,A) (by first|rfl|simp[pg]) (by first|rfl|simp[pg]) rfl rfl ?_
  exact⟨by omega,n+1,by omega,by omega,e.symm⟩
 ·have jB:n=P.length / 64:=by omega
  rw[← jB,← hs]at mS
  have iy:r.length=32:=by rw[← mS];exact Iw s
  have Cc:∀ j:Int,0≤j→j<32→gt r j=IntKind.u8.wrap (mA .u32 (gt s (j / 4)) (24-8*(j % 4))):=fun j j0 j1=>by rw[← mS];exact Sw s j0 j1
  clear mS hs cp cf
  simp[hi]
  (with_reducible repeat' first|refine Xk ?_<;>try simp|refine Xs ?_ ?_<;>intro h<;>(try intro h')<;>(try simp[h])<;>try omega|refine Xg ?_|omega)
  refine fh.e ((0,zs 32):Int×List Int) (fun y=>[(2,.ptr 0 0 0),(4,.ptr 1 0 0),(6,.ptr 2 0 0),(7,.i y.1)]) (fun y=>[.row 70 0 (cl fU (zs 32)),.row 323 0 (cl fW s),.row 70 0 (cl fU y.2)]) (fun y=>(0≤y.1∧y.1≤32)∧y.2.length=32∧∀ j:Int,0≤j→j<y.1→gt y.2 j=gt r j) (fun y=>(32-y.1).toNat) ?_ ?_
  ·exact⟨by simp,by simp,fun j j0 j1=>absurd j1 (by dsimp only;omega)⟩
  rintro⟨i,u⟩ ⟨⟨i0,i1⟩,pn,hu⟩
  dsimp only at i0 i1 pn hu ⊢
  by_cases hi:i<32
  ·have hq:uN i 4=i / 4:=uO i0 (by omega) (by omega)
   have hm:fq i 4=i % 4:=jT i0
   simp[hi,hq,hm]
   (with_reducible repeat' first|refine Xk ?_<;>try simp[hq,hm]|refine Xs ?_ ?_<;>intro h<;>(try intro h')<;>(try simp[h,hq,hm])<;>try omega|refine Xg ?_|omega)
   refine LJ.i (i+1,pt u i (gt r i)) (by first|rfl|simp[Cc i i0 hi]) (by first|rfl|simp[Cc i i0 hi]) rfl rfl ?_
   refine⟨by omega,jG,by rw[il i0 (by omega)];exact pn,fun j j0 j1=>?_⟩
   dsimp only at j1 ⊢
   rw[qv i0 (by omega) j0]
   by_cases e:j=i
   ·rw[if_pos e,e]
   ·rw[if_neg e];exact hu j j0 (by omega)
  ·have jB:i=32:=by omega
   subst jB
   have e:u=r:=by
    refine ct (by omega) fun j j0 j1=>?_
    have h:=hu j (by omega) (by omega)
    rw[kl (by omega) (by omega),kl (by omega) (by omega)]at h
    exact h
   subst e
   have he:u.take 32=u:=ai (by omega)
   simp[pn,he]
