/- Part 11 of the proof of skewer.skewerlaw15.TableAgain. -/
import Derived.Test.YtnaefnajkaohgaaGreatDoorD10
set_option linter.all false
namespace Go.AL
open Go
def iH(l:List eV):D:=.sl 8 (l.map eV.cells)
def lj(l:List fq):D:=.sl 6 (l.map fq.cells)
@[simp] theorem al9(l:List eV):D.sl 8 (l.map eV.cells)=iH l:=by unfold iH;rfl
@[simp] theorem al7(l:List fq):D.sl 6 (l.map fq.cells)=lj l:=by unfold lj;rfl
section
variable{l:List eV}{n:Int}{k:IntKind}{P:D→Prop}{H:U}
@[simp] theorem ag5:closed (iH l)=true:=by unfold iH;exact G9 l
@[simp] theorem ajd:nq .slice (iH l) H=some (.i l.length):=by simp only[iH,Oz,List.length_map]
@[simp] theorem amC(n:Nat):gE n (iH l) = []:=by unfold iH;rfl
@[simp] theorem agl:cellsOf (iH l)=some [iH l]:=by unfold iH;rfl
@[simp] theorem aj2:oA (mb 8 (iH l) (.val (.int k n))) P .mk=((0≤n∧n<l.length)∧P (.eZ (gt l n).cells)):=by unfold iH;exact sM
end
section
variable{l:List fq}{n:Int}{k:IntKind}{P:D→Prop}{H:U}
@[simp] theorem ag2:closed (lj l)=true:=by unfold lj;exact G9 l
@[simp] theorem aja:nq .slice (lj l) H=some (.i l.length):=by simp only[lj,Oz,List.length_map]
@[simp] theorem amg:jx 6 H (lj l)=some (cl fq.cells l,l.length):=by unfold lj;exact Ba ..
@[simp] theorem amy(n:Nat):gE n (lj l) = []:=by unfold lj;rfl
@[simp] theorem ajZ:oA (mb 6 (lj l) (.val (.int k n))) P .mk=((0≤n∧n<l.length)∧P (.eZ (gt l n).cells)):=by unfold lj;exact sM
end
@[simp] theorem al5:D.sl 8 []=iH []:=by unfold iH;rfl
@[simp] theorem al4:D.sl 6 []=lj []:=by unfold lj;rfl
@[simp] theorem ah0{ρ:Nat→Option Nat}{H:U}{k:Nat}{t:TypeId}{a b c:List Int}{r q w u:Int}{o:Bool}:lI ρ H (k+1) 8 0 1 (some (t,[dI a,dI b,dI c,.i r,.i q,.i w,.i u,.b o]))=iH [⟨⟨a,b,c,r,q⟩,w,u,o⟩]:=by
 have h:=qW (f:=eV.cells) (ρ:=ρ) (H:=H) (k:=k) (t:=t) (l:=[⟨⟨a,b,c,r,q⟩,w,u,o⟩]) (n:=1) rfl
 rw[lF]at h
 unfold iH;exact h
def sc(S:List Nat):Nat→U→kf
 | _,[]=>[]
 | i,_::r=>(i,!S.contains i)::sc S (i+1) r
@[simp] theorem ahI(S:List Nat)(i:Nat):sc S i [] = []:=rfl
@[simp] theorem ahH(S:List Nat)(i:Nat)(o:Ob)(r:U):sc S i (o::r)=(i,!decide (i∈S))::sc S (i+1) r:=by
 rw[sc,List.contains_eq_mem]
theorem S5(H:U)(S:List Nat):jT H S=sc S 0 H:=by
 have key:∀ (H:U) (i:Nat),(List.range' i H.length).map (fun v=>(v,!(S.contains v)))=sc S i H:=by
  intro H
  induction H with
  | nil=>intro i;rfl
  | cons o r ih=>intro i;rw[aJ,cE,List.map_cons,ih,sc]
 rw[jT,dF,key]
def HI(env:Env)(H:U)(m:List Nat)(r:Bool)(ks:kf):St:={ env:=env.map fun p=>(p.1,eS (fM ks) H 40 p.2),H:=ks.map fun p=>if p.2 then pz (fM ks) H H[p.1]? else .dead,marks:=m,fL:=r }
@[simp] theorem ahS(S:List Nat)(env:Env)(H:U)(m:List Nat)(r:Bool):jF S { env:=env,H:=H,marks:=m,fL:=r }=HI env H m r (sc S 0 H):=by
 unfold jF HI
 rw[S5]
 rfl
@[simp] theorem ahO(env:Env)(H:U)(m:List Nat)(r:Bool)(ks:kf):HI env H m r ks = { env:=env.map fun p=>(p.1,eS (fM ks) H 40 p.2),H:=ks.map fun p=>if p.2 then pz (fM ks) H H[p.1]? else .dead,marks:=m,fL:=r }:=rfl
section
variable{T:gb}
def HJ(S:List Nat)(T:gb)(b:IR)(K:gv):gv:=fun o=>match o with
 | .norm s=>s.marks = []∧XC T b (jF S s) K
 | o=>K o
@[simp ↓] theorem ahQ{S:List Nat}{b:IR}{K:gv}{s:St}:HJ S T b K (.norm s)=(s.marks = []∧XC T b (jF S s) K):=(rfl)
@[simp ↓] theorem ahP{S:List Nat}{b:IR}{K:gv}{id:Nat}{s:St}:HJ S T b K (.exit id s)=K (.exit id s):=(rfl)
@[simp ↓] theorem ahR{S:List Nat}{b:IR}{K:gv}{s:St}:HJ S T b K (.ret s)=K (.ret s):=(rfl)
theorem eW.fz{live:List Nat}{a:IR}{s:St}{K:gv}(S:List Nat)(hm:s.marks = [])(h:eW T live a (jF S s) K .mk):eW T live a s K .mk:=Wc.jF S (by rw[hm];exact WM _) h
end
theorem OE{g:eO}{s d c:Int}:∀ (n:Nat) (x:Int) (out:List Int),(pg g s d c n x out).length≤out.length+n
 | 0,x,out=>by simp[pg]
 | n+1,x,out=>by
  unfold pg
  split
  ·have:=OE (g:=g) (s:=s) (d:=d) (c:=c) n (jo g s d x) (out ++ [x])
   simp at this;omega
  ·omega
theorem Jm{g:eO}{s d c:Int}:(jn g s d c).length≤10:=by
 have:=OE (g:=g) (s:=s) (d:=d) (c:=c) 10 (jo g s d c) []
 simpa[jn]using this
theorem OF{s:eV}:∀ l:List Int,(mS s l).length≤l.length
 | []=>by simp[mS]
 | c::r=>by
  have:=OF (s:=s) r
  unfold mS
  split<;>simp<;>omega
theorem x8{g:eO}{s:eV}{x:eT}:(gw g s x).length≤10:=by
 have:=OF (s:=s) (jn g s.p.side x.2 s.cur)
 have:=Jm (g:=g) (s:=s.p.side) (d:=x.2) (c:=s.cur)
 unfold gw oD oV
 dsimp only
 repeat' split
 all_goals first|omega|(simp only[aJ,cI];omega)
end Go.AL
namespace Go.Proofs.YtnaefnajkaohgaaGreatDoor
open Go Go.AL Classical
set_option maxRecDepth 10000
set_option maxHeartbeats 1000000
structure nG(a b:List Pos)(i k:Int)(out:List Pos):Prop where
 i0:0≤i∧i≤a.length
 k0:0≤k∧k≤b.length
 len:(out.length:Int)=i+k
 perm:out.Perm (a.take i.toNat++b.take k.toNat)
 ws:WS out
 le:∀ x∈out,∀ y,y∈a.drop i.toNat∨y∈b.drop k.toNat→gd x y≤0
theorem nG.init(a b:List Pos):nG a b 0 0 []:=⟨by omega,by omega,rfl,by simp,by simp[WS],by simp⟩
theorem QL{a:List Pos}(h:WS a){i:Int}(h0:0≤i)(h1:i<a.length){y:Pos}(hy:y∈a.drop i.toNat):gd (gt a i) y≤0:=by
 have h2:WS (a.drop i.toNat):=eE (List.drop_sublist _ _) h
 rw[lk h0 h1]at hy h2
 rcases au.1 hy with rfl|hy
 ·rw[pH];omega
 ·exact(aL.1 h2).1 y hy
theorem WV{α:Type}[Inhabited α]{a:List α}{i:Int}(h0:0≤i)(h1:i<a.length){y:α}:y∈a.drop i.toNat↔y=gt a i∨y∈a.drop (i+1).toNat:=by
 rw[lk h0 h1,au,show(i+1).toNat=i.toNat+1 by omega]
theorem nG.add{a b:List Pos}{i k:Int}{out:List Pos}(hI:nG a b i k out)(hi:i<a.length)(ha:WS a)(h:∀ y∈b.drop k.toNat,gd (gt a i) y≤0):nG a b (i+1) k (out ++ [gt a i]):=by
 have h0:=hI.i0
 have e:∀ y,y∈a.drop i.toNat↔y=gt a i∨y∈a.drop (i+1).toNat:=fun y=>WV h0.1 hi
 refine⟨by omega,hI.k0,by have:=hI.len;simp;omega,?_,?_,fun x hx y hy=>?_⟩
 ·rw[gx h0.1 hi,bt]
  refine(hI.perm.append_right _).trans ?_
  rw[bt]
  exact List.Perm.append_left _ eF
 ·refine aV.2 ⟨hI.ws,by simp,fun x hx y hy=>?_⟩
  simp at hy;subst hy
  exact hI.le x hx _ (.inl ((e _).2 (.inl rfl)))
 ·rcases List.mem_append.1 hx with hx|hx
  ·exact hI.le x hx y (hy.imp (fun h=>(e _).2 (.inr h)) id)
  ·simp at hx;subst hx
   rcases hy with hy|hy
   ·exact QL ha h0.1 hi ((e _).2 (.inr hy))
   ·exact h y hy
theorem nG.swap{a b:List Pos}{i k:Int}{out:List Pos}(hI:nG a b i k out):nG b a k i out:=
 ⟨hI.k0,hI.i0,by have:=hI.len;omega,hI.perm.trans eF,hI.ws,fun x hx y hy=>hI.le x hx y hy.symm⟩
theorem nG.Kk{a b:List Pos}{i k:Int}{out:List Pos}(hI:nG a b i k out)(hi:i<a.length)(ha:WS a)(hb:WS b)(h:k<b.length→gd (gt a i) (gt b k)≤0):nG a b (i+1) k (out ++ [gt a i]):=by
 refine hI.add hi ha fun y hy=>?_
 by_cases hk:k<b.length
 ·exact Ma (h hk) (QL hb hI.k0.1 hk hy)
 ·rw[bp (by have:=hI.k0;omega)]at hy;cases hy
theorem nG.Qp{a b:List Pos}{i k:Int}{out:List Pos}(hI:nG a b i k out)(hk:k<b.length)(ha:WS a)(hb:WS b)(h:i<a.length→¬ gd (gt a i) (gt b k)≤0):nG a b i (k+1) (out ++ [gt b k]):=by
 refine(hI.swap.Kk hk hb ha fun hi=>?_).swap
 have:=h hi
 rw[qc];omega
theorem f109:∀ (n:Nat) (l:List Pos),l.length=n→l.length<2 ^ 40→(∀ p∈l,Small p)→Wf T 109 [fW l] [] (Ex fW fun r=>r.Perm l∧WS r):=by
 intro n
 induction n using Nat.strongRecOn with
 | ind n ih=>
 intro l hn hl hs
 refine Yg BA ?_
 simp[BA]
 (with_reducible refine Xs ?_ ?_<;>intro h<;>(try intro h')<;>(try simp[h])<;>(try omega))
 ·refine⟨l,rfl,List.Perm.refl _,?_⟩
  unfold WS
  cases l with
  | nil=>simp
  | cons a l=>cases l with
   | nil=>simp
   | cons b l=>simp at h;omega
 ·rw[xQ (by omega) (by omega) (by omega)]
  (with_reducible repeat' first|refine Xk ?_<;>try simp|refine Xs ?_ ?_<;>intro h<;>(try intro h')<;>(try simp[h])<;>(try omega)|refine Xg ?_|omega)
  refine Yq (ih (l.length / 2) (by omega) _ (by simp;omega) (by simp;omega) (fun p hp=>hs p (aM hp))) fun a ha=>?_
  simp
  rw[xQ (by omega) (by omega) (by omega)]
  (with_reducible repeat' first|refine Xk ?_<;>try simp|refine Xs ?_ ?_<;>intro h<;>(try intro h')<;>(try simp[h])<;>(try omega)|refine Xg ?_|omega)
  refine Yq (ih (l.length-l.length / 2) (by omega) _ (by simp;omega) (by simp;omega) (fun p hp=>hs p (bV (aM hp)))) fun b hb=>?_
  simp
  have la:(a.length:Int)=l.length / 2:=by rw[ha.1.length_eq];simp;omega
  have lb:(b.length:Int)=l.length-l.length / 2:=by rw[hb.1.length_eq];simp;omega
  have sa:∀ p∈a,Small p:=fun p hp=>hs p (aM ((ha.1.mem_iff).1 hp))
  have sb:∀ p∈b,Small p:=fun p hp=>hs p (bV (aM ((hb.1.mem_iff).1 hp)))
  refine eW.j ((0,0,[]):Int×Int×List Pos) (fun x=>[(3,fW a),(4,fW b),(5,.eN 0 x.2.2.length 5 0 x.2.2.length),(6,.i x.1),(7,.i x.2.1)]) (fun x=>[.row 44 x.2.2.length (cl Pos.cells x.2.2)]) (fun x=>nG a b x.1 x.2.1 x.2.2) (fun x=>a.length+b.length-(x.1+x.2.1).toNat) ?_ (by simp) (by first|rfl|simp) rfl ?_
  ·exact nG.init a b
  rintro⟨i,k,out⟩ hI
  have h0:=hI.i0
  have h1:=hI.k0
  have h2:=hI.len
  dsimp only at hI h0 h1 h2 ⊢
  simp
  (with_reducible repeat' first|refine Xk ?_<;>try simp|refine Xs ?_ ?_<;>intro h<;>(try intro h')<;>(try simp[h])<;>(try omega)|refine Xg ?_|omega)
  ·exact⟨i+1,k,_,by simp,rfl,rfl,by simp,rfl,by omega,hI.Kk (by assumption) ha.2 hb.2 fun h=>by omega⟩
  ·refine Yt (f50 _ _ (sa _ (eY (by omega) (by omega))) (sb _ (eY (by omega) (by omega)))) ?_
   simp[*]
   (with_reducible repeat' first|refine Xk ?_<;>try simp|refine Xs ?_ ?_<;>intro h<;>(try intro h')<;>(try simp[h])<;>(try omega)|refine Xg ?_|omega)
   ·exact⟨i+1,k,_,by simp,rfl,rfl,by simp,rfl,by omega,hI.Kk (by assumption) ha.2 hb.2 fun _=>by assumption⟩
   ·exact⟨i,k+1,_,by simp,rfl,rfl,by simp,rfl,by omega,hI.Qp (by omega) ha.2 hb.2 fun _=>by assumption⟩
  ·exact⟨i,k+1,_,by simp,rfl,rfl,by simp,rfl,by omega,hI.Qp (by omega) ha.2 hb.2 fun _=>by omega⟩
  ·refine⟨out,rfl,?_,hI.ws⟩
   have e1:=hI.perm
   rw[jg (by omega),jg (by omega)]at e1
   refine e1.trans ((List.Perm.append ha.1 hb.1).trans ?_)
   have e2:(l.drop (↑l.length / 2:Int).toNat).take (l.length-(↑l.length / 2:Int).toNat)=l.drop (↑l.length / 2:Int).toNat:=aH (by rw[bn];exact Nat.le_refl _)
   rw[e2,bM]
structure qP(a:List Pos)(i:Int)(out:List Pos):Prop where
 i0:0≤i∧i≤a.length
 len:(out.length:Int)≤i
 mem:∀ q,q∈out↔q∈a.take i.toNat
 st:out.Pairwise fun x y=>gd x y<0
theorem qP.init(a:List Pos):qP a 0 []:=⟨by omega,by simp,by simp,by simp⟩
theorem QM{a:List Pos}(h:WS a){j:Int}(h0:0≤j)(h1:j<a.length){x:Pos}(hx:x∈a.take (j+1).toNat):gd x (gt a j)≤0:=by
 have h2:WS (a.take (j+1).toNat):=eE (List.take_sublist _ _) h
 rw[gx h0 h1]at hx h2
 rcases List.mem_append.1 hx with hx|hx
 ·exact(aV.1 h2).2.2 x hx _ (by simp)
 ·simp at hx;subst hx;rw[pH];omega
theorem qP.skip{a:List Pos}{i:Int}{out:List Pos}(hI:qP a i out)(hi:i<a.length)(h1:i≠0)(h:gt a i=gt a (i-1)):qP a (i+1) out:=by
 have h0:=hI.i0
 refine⟨by omega,by have:=hI.len;omega,fun q=>?_,hI.st⟩
 rw[hI.mem,gx h0.1 hi,List.mem_append,List.mem_singleton]
 refine⟨.inl,fun hq=>hq.elim id fun hq=>?_⟩
 rw[hq,h]
 have:=gx (l:=a) (n:=i-1) (by omega) (by omega)
 rw[show i-1+1=i by omega]at this
 rw[this];simp
theorem qP.add{a:List Pos}{i:Int}{out:List Pos}(hI:qP a i out)(hi:i<a.length)(ha:WS a)(h:i=0∨gt a i≠gt a (i-1)):qP a (i+1) (out ++ [gt a i]):=by
 have h0:=hI.i0
 refine⟨by omega,by have:=hI.len;simp;omega,fun q=>?_,aV.2 ⟨hI.st,by simp,fun x hx y hy=>?_⟩⟩
 ·rw[List.mem_append,hI.mem,gx h0.1 hi,List.mem_append]
 ·simp at hy;subst hy
  have hx:=(hI.mem x).1 hx
  rcases h with rfl|h
  ·simp at hx
  ·by_cases hz:i=0
   ·subst hz;simp at hx
   have e1:=QM ha (j:=i-1) (by omega) (by omega) (x:=x) (by rw[show i-1+1=i by omega];exact hx)
   have e2:=QM ha h0.1 hi (x:=gt a (i-1)) (by
    have:=gx (l:=a) (n:=i-1) (by omega) (by omega)
    rw[show i-1+1=i by omega]at this
    rw[gx h0.1 hi,this];simp)
   have e3:gd (gt a (i-1)) (gt a i)≠0:=fun e=>h (nJ.1 e).symm
   by_cases e4:gd x (gt a (i-1))=0
   ·rw[nJ.1 e4];omega
   ·exact tl (show gd x (gt a (i-1))<0 by omega) (by omega)
theorem acK{r:List Pos}(h:r.Pairwise fun x y=>gd x y<0):iZ r:=by
 intro i h1 h2
 rw[nL (by omega) (by omega),nL (by omega) (by omega)]
 exact bk.1 h _ _ _ _ (by omega)
theorem f61(l:List Pos)(hl:l.length<2 ^ 40)(hs:∀ p∈l,Small p):Wf T 61 [fW l] [] (Ex fW fun r=>iZ r∧r.length≤l.length∧∀ q,q∈r↔q∈l):=by
 refine Yg C' ?_
 simp[C']
 refine Yq (f109 _ l rfl hl hs) fun a ha=>?_
 simp
 have la:a.length=l.length:=ha.1.length_eq
 have sa:∀ p∈a,Small p:=fun p hp=>hs p (ha.1.mem_iff.1 hp)
 refine eW.j ((0,[]):Int×List Pos) (fun x=>[(3,fW a),(4,.eN 0 x.2.length 5 0 x.2.length),(5,.i x.1)]) (fun x=>[.row 44 x.2.length (cl Pos.cells x.2)]) (fun x=>qP a x.1 x.2) (fun x=>a.length-x.1.toNat) ?_ (by simp) (by first|rfl|simp) rfl ?_
 ·exact qP.init a
 rintro⟨i,out⟩ hI
 have h0:=hI.i0
 have h1:=hI.len
 dsimp only at hI h0 h1 ⊢
 simp
 (with_reducible repeat' first|refine Xk ?_<;>try simp|refine Xs ?_ ?_<;>intro h<;>(try intro h')<;>(try simp[h])<;>(try omega)|refine Xg ?_|omega)
 ·exact⟨1,_,by simp,rfl,by simp,rfl,by omega,by subst h;exact hI.add (by assumption) ha.2 (.inl rfl)⟩
 ·refine Yt (f110 _ _ (sa _ (eY (by omega) (by omega))) (sa _ (eY (by omega) (by omega)))) ?_
  simp
  (with_reducible repeat' first|refine Xk ?_<;>try simp|refine Xs ?_ ?_<;>intro h<;>(try intro h')<;>(try simp[h])<;>(try omega)|refine Xg ?_|omega)
  ·exact⟨i+1,_,rfl,rfl,rfl,rfl,by omega,hI.skip (by assumption) (by assumption) (by assumption)⟩
  ·exact⟨i+1,_,by simp,rfl,by simp,rfl,by omega,hI.add (by assumption) ha.2 (.inr (by assumption))⟩
 ·refine⟨out,rfl,acK hI.st,by omega,fun q=>?_⟩
  rw[hI.mem,jg (by omega),ha.1.mem_iff]
end Go.Proofs.YtnaefnajkaohgaaGreatDoor
namespace Go.AL
open Go
def Ji(H:U)(d:D)(ks:kf):D×U:=(eS (fM ks) H 40 d,ks.map fun p=>if p.2 then pz (fM ks) H H[p.1]? else .dead)
@[simp] theorem ai5(H:U)(d:D)(ks:kf):Ji H d ks=(eS (fM ks) H 40 d,ks.map fun p=>if p.2 then pz (fM ks) H H[p.1]? else .dead):=rfl
def xM(own n:Nat)(H:U)(d:D):List Nat:=match own with|0=>[]|1=>xN n d|3=>((fX H 40 d).filter (n≤·)).take 1|_=>(fX H 40 d).filter (n≤·)
@[simp] theorem akL(n:Nat)(H:U)(d:D):xM 0 n H d = []:=rfl
@[simp] theorem akM(n:Nat)(H:U)(d:D):xM 1 n H d=xN n d:=rfl
@[simp] theorem akN(n:Nat)(H:U)(d:D):xM 2 n H d=(fX H 40 d).filter (n≤·):=rfl
@[simp] theorem akO(n:Nat)(H:U)(d:D):xM 3 n H d=((fX H 40 d).filter (n≤·)).take 1:=rfl
@[simp low] theorem Fv{own n:Nat}{H:U}{d:D}(h:¬ H.length≤n):leave own n H d=Ji H d (gh n (dedup ((xM own n H d++((H.take n).map (mc n)).flatten).filter (· < H.length)))):=by
 unfold leave Ji xM
 rw[if_neg h]
 rfl
@[simp] theorem akP(n v g sz len:Nat):xN n (.eN v g sz 0 len)=if n≤v then [v]else []:=rfl
theorem AV{H:U}{k:Nat}{d:D}(h:closed d=true):fX H k d = []:=by
 cases k with
 | zero=>rfl
 | succ k=>unfold fX;exact if_pos h
theorem AW{H:U}{k:Nat}{cs:List D}(h:fm cs=true):(cs.map (fX H k)).flatten = []:=by
 induction cs with
 | nil=>rfl
 | cons d r ih=>
  simp only[fm,ah]at h
  simp[AV h.1,ih h.2]
@[simp] theorem ak5{H:U}{k:Nat}{d:D}(h:closed d=true):fX H k d = []:=AV h
@[simp] theorem ak4(H:U)(k:Nat)(cs:List D):fX H (k+1) (.agg cs)=(cs.map (fX H k)).flatten:=by
 by_cases h:closed (.agg cs)=true
 ·rw[AV h,AW (by simpa using h)]
 ·rw[fX,if_neg h]
@[simp] theorem ala(H:U)(k:Nat)(cs:List D):fX H (k+1) (.tup cs)=(cs.map (fX H k)).flatten:=by
 by_cases h:closed (.tup cs)=true
 ·rw[AV h,AW (by simpa using h)]
 ·rw[fX,if_neg h]
def xU(H:U)(k:Nat):Option Ob→List Nat
 | some (.row _ _ cs)=>(cs.map (fX H k)).flatten
 | _=>[]
@[simp] theorem alc(H:U)(k t g:Nat)(cs:List D):xU H k (some (.row t g cs))=(cs.map (fX H k)).flatten:=rfl
@[simp] theorem alb(H:U)(k:Nat)(kk:KK)(es:List (Value×D)):xU H k (some (.map kk es)) = []:=rfl
theorem PH(H:U)(k v:Nat):(match rowsOf H v with|some (_,_,cs)=>(cs.map (fX H k)).flatten|none=>[])=xU H k H[v]? := by
 unfold rowsOf xU
 cases h:H[v]? with
 | none=>rfl
 | some o=>cases o<;>rfl
@[simp] theorem ak7(H:U)(k v g sz off n:Nat):fX H (k+1) (.eN v g sz off n)=v::xU H k H[v]? := by
 rw[fX,if_neg (by simp)]
 exact congrArg _ (PH H k v)
@[simp] theorem ak8(H:U)(k v g off:Nat):fX H (k+1) (.ptr v g off)=v::xU H k H[v]? := by
 rw[fX,if_neg (by simp)]
 exact congrArg _ (PH H k v)
@[simp] theorem ak9{H:U}{k:Nat}{α:Type}{f:α→List D}{sz:Nat}[F:Fl f sz](l:List α):((cl f l).map (fX H k)).flatten = []:=AW (qb l)
@[simp low] theorem ahV{ρ:Nat→Option Nat}{H:U}{k sz:Nat}{t:TypeId}{cs:List D}(h:cs.length=sz):lI ρ H k sz 0 1 (some (t,cs)) = .sl sz [cs.map (eS ρ H k)]:=by
 subst h
 unfold lI
 simp[chunks,aH]
@[simp] theorem ama{a b c:List Int}{r q w u:Int}{o:Bool}:D.sl 8 [[dI a,dI b,dI c,.i r,.i q,.i w,.i u,.b o]]=iH [⟨⟨a,b,c,r,q⟩,w,u,o⟩]:=by unfold iH;rfl
end Go.AL
namespace Go.Proofs.YtnaefnajkaohgaaGreatDoor
open Go Go.AL Classical
set_option maxRecDepth 10000
set_option maxHeartbeats 1000000
theorem Ec(p:Pos)(hp:Small p):Wf T 155 [dP p] [] (fun d H=>d = .agg [.eN 0 1 1 0 p.cs.length,.eN 1 1 1 0 p.h0.length,.eN 2 1 1 0 p.h1.length,.i p.fg,.i p.side]∧H = [.row 3 1 (cl f1 p.cs),.row 3 1 (cl f1 p.h0),.row 3 1 (cl f1 p.h1)]):=by
 obtain⟨h1,h2,h3⟩:=hp
 refine Wf.xo 2 (fn:=sX) rfl (by simp[sX]) ?_
 simp[sX]
 (with_reducible repeat' first|refine Xk ?_<;>try simp|refine Xs ?_ ?_<;>intro h<;>(try intro h')<;>(try simp[h])<;>(try omega)|refine Xg ?_|omega)
 all_goals trace_state
theorem f250(a b:eV)(ha:Small a.p)(hb:Small b.p):Wf T 250 [.agg a.cells,.agg b.cells] [] (Is (.b (decide (a=b)))):=by
 have e:(a=b)↔a.p=b.p∧a.kind=b.kind∧a.cur=b.cur∧a.ig=b.ig:=by cases a;cases b;simp
 have e2:decide (a=b)=decide (a.p=b.p∧a.kind=b.kind∧a.cur=b.cur∧a.ig=b.ig):=decide_eq_decide.2 e
 rw[e2]
 refine Yg CI ?_
 simp[CI]
 (with_reducible repeat' first|refine Xk ?_<;>try simp|refine Xs ?_ ?_<;>intro h<;>(try intro h')<;>(try simp[h])<;>(try omega)|refine Xg ?_|omega)
 ·refine Yc (f50 _ _ ha hb) ?_
  simp
  simp_all [nJ]
 all_goals (intros;simp_all)
theorem f252(s:eV)(b:Bool):Wf T 252 [.agg s.cells,.b b] [] (Is (iH (if b then [s]else []))):=by
 refine Yg CL ?_
 simp[CL]
 (with_reducible repeat' first|refine Xk ?_<;>try simp|refine Xs ?_ ?_<;>intro h<;>(try intro h')<;>(try simp[h])<;>(try omega)|refine Xg ?_|omega)
def As(a b:fq):Prop:=gd a.p b.p<0∨(gd a.p b.p=0∧a.ig=false∧b.ig=true)
theorem f229(a b:fq)(ha:Small a.p)(hb:Small b.p):Wf T 229 [.agg a.cells,.agg b.cells] [] (Is (.b (decide (As a b)))):=by
 refine Yg CA ?_
 simp[CA]
 refine Yc (f50 _ _ ha hb) ?_
 simp
 (with_reducible repeat' first|refine Xk ?_<;>try simp|refine Xs ?_ ?_<;>intro h<;>(try intro h')<;>(try simp[h])<;>(try omega)|refine Xg ?_|omega)
 all_goals by_cases hc:gd a.p b.p<0<;>simp[*,As]at *
theorem f263(g:eO)(hg:lE g)(s d c:Int):Wf T 263 [g.gV,.i s,.i d,.i c] [] (Is (dI (jn g s d c))):=by
 have hb:=hg.size
 refine Yg CQ ?_
 simp[CQ]
 refine Yc (f251 g hg s d c) ?_
 simp
 refine eW.j ((0,jo g s d c,[]):Nat×Int×List Int) (fun x=>[(1,.i s),(2,.i d),(3,.i c),(4,.ptr 0 0 0),(9,.eN 1 x.2.2.length 1 0 x.2.2.length),(10,.i x.2.1)]) (fun x=>[.row 37 0 [.i g.size,.sl 1 (g.next.map fI),dI g.gN],.row 3 x.2.2.length (cl f1 x.2.2)]) (fun x=>x.1=x.2.2.length∧x.2.1<g.size∧x.2.2.Nodup∧(∀ y∈x.2.2,0≤y∧y<g.size)∧jn g s d c=pg g s d c (10-x.1) x.2.1 x.2.2) (fun x=>10-x.1) ?_ (by simp) (by first|rfl|simp) rfl ?_
 ·have:=hg.to s d c
  simp[jn];omega
 rintro⟨m,x,out⟩ ⟨h0,h1,h2,h3,h4⟩
 dsimp only at h0 h1 h2 h3 h4 ⊢
 have hm:out.length≤9:=uf 9 out h2 (fun y hy=>by have:=h3 y hy;omega)
 have e:=h4
 rw[show 10-m=(9-m)+1 by omega,pg]at e
 simp
 (with_reducible repeat' first|refine Xk ?_<;>try simp|refine Xs ?_ ?_<;>intro h<;>(try intro h')<;>(try simp[h])<;>(try omega)|refine Xg ?_|omega)
 ·rw[e,if_neg (by omega)]
 ·refine fr.r rfl rfl (f25 out x (by omega)) (by simp) rfl (by simp) ?_
  simp
  (with_reducible repeat' first|refine Xk ?_<;>try simp|refine Xs ?_ ?_<;>intro h<;>(try intro h')<;>(try simp[h])<;>(try omega)|refine Xg ?_|omega)
  ·rw[e,if_neg (by rintro⟨_,_,hh⟩;exact hh ‹_›)]
  ·refine Yc (f251 g hg s d x) ?_
   simp
   refine⟨out.length+1,_,out ++ [x],by simp,rfl,by simp,rfl,by omega,by simp,(hg.to _ _ _).2,?_,?_,?_⟩
   ·rw[a7]
    refine⟨h2,by simp,fun y hy z hz=>?_⟩
    simp at hz
    subst hz
    intro e3
    subst e3
    exact absurd hy ‹_›
   ·intro y hy
    simp at hy
    rcases hy with hy|rfl
    ·exact h3 y hy
    ·omega
   ·rw[e,if_pos ⟨by omega,by omega,by assumption⟩,h0,show 9-out.length=10-(out.length+1)by omega]
 ·rw[e,if_neg (by omega)]
set_option maxRecDepth 10000
set_option maxHeartbeats 1000000
theorem f253(g:eO)(hg:fi g)(s:eV)(hs:ix g s)(n:Int):Wf T 253 [dG g,.agg s.cells,.i n] [] (Is (iH (mS s (jn g s.p.side n s.cur)))):=by
 have hl:=Jm (g:=g) (s:=s.p.side) (d:=n) (c:=s.cur)
 have gj:=hs.p.size
 refine Yg CM ?_
 simp[CM]
 refine Yc (f263 g hg.gV s.p.side n s.cur) ?_
 simp
 generalize hL:jn g s.p.side n s.cur=L at *
 have fw:∀ y∈L,0≤y∧y<g.size:=fun y hy=>Jl hg.gV (hL▸hy)
 refine eW.j ((0,[]):Int×List eV) (fun x=>[(4,.ptr 1 0 0),(7,.eN 2 x.2.length 8 0 x.2.length),(8,dI L),(9,.i x.1)]) (fun x=>[.row 41 0 g.cells,.row 282 0 s.cells,.row 282 x.2.length (cl eV.cells x.2)]) (fun x=>0≤x.1∧x.1≤L.length∧x.2.length=x.1.toNat∧mS s L=x.2++mS s (L.drop x.1.toNat)) (fun x=>L.length-x.1.toNat) ?_ (by simp) (by first|rfl|simp) rfl ?_
 ·simp
 rintro⟨i,out⟩ ⟨h0,h1,h2,h3⟩
 dsimp only at h0 h1 h2 h3 ⊢
 simp
 (with_reducible repeat' first|refine Xk ?_<;>try simp|refine Xs ?_ ?_<;>intro h<;>(try intro h')<;>(try simp[h])<;>(try omega)|refine Xg ?_|omega)
 ·have hc:=fw _ (eY h0 ‹_›)
  rw[lk h0 ‹_›,mS]at h3
  (with_reducible repeat' first|refine Xk ?_<;>try simp|refine Xs ?_ ?_<;>intro h<;>(try intro h')<;>(try simp[h])<;>(try omega)|refine Xg ?_|omega)
  ·refine⟨i+1,out ++ [{ s with cur:=gt L i }],by simp,rfl,by simp,by rw[← oI],by omega,by omega,by omega,by simp[h2];omega,?_⟩
   rw[h3,if_pos ‹_›,show(i+1).toNat=i.toNat+1 by omega];simp
  ·rw[if_neg ‹_›]at h3
   rw[h3]
   simp[iH]
 ·rw[bp (by omega)]at h3
  rw[h3];simp[mS]
theorem OV{n s:Int}(_:0≤n)(hk:0≤ff n)(h:iu n≠s)(hs:0≤s∧s≤1):iu n=1-s:=by
 unfold ff iu at *
 split at hk
 ·rename_i e;rw[if_pos e]at h ⊢;omega
 ·omega
theorem f254(g:eO)(hg:fi g)(s:eV)(hs:ix g s):Wf T 254 [dG g,.agg s.cells] [] (Is (iH (oD g s))):=by
 have gj:=hs.p.size
 have kz:=hs.cur
 have jl:=hs.p.small hg
 refine Yg CN ?_
 simp[CN]
 (with_reducible repeat' first|refine Xk ?_<;>try simp|refine Xs ?_ ?_<;>intro h<;>(try intro h')<;>(try simp[h])<;>(try omega)|refine Xg ?_|omega)
 refine Yc (f51 _) ?_
 simp
 have gQ:=hs.p.cs _ (eY kz.1 (by omega))
 have mO:=hg.kinds
 have gA:=hs.p.side
 (with_reducible repeat' first|refine Xk ?_<;>try simp|refine Xs ?_ ?_<;>intro h<;>(try intro h')<;>(try simp[h])<;>(try omega)|refine Xg ?_|omega)
 ·rw[oD,if_pos]
  unfold ff at *;unfold iu
  split at h<;>rename_i h5
  ·omega
  ·rw[if_neg h5];omega
 ·rw[oD,if_pos (by omega)]
 ·have hm:ff (gt s.p.cs s.cur)<g.kinds.length:=ru gQ.2 mO.1
  have IW:s.p.side=0∨s.p.side=1:=by omega
  have l0:=hs.p.h0.len
  have l1:=hs.p.h1.len
  have q0:=gC (l:=s.p.cs) (n:=s.cur) (v:=0) kz.1 (by omega)
  refine Yn (Ec s.p jl) ?_
  simp
  (with_reducible repeat' first|refine Xk ?_<;>try simp[q0]|refine Xs ?_ ?_<;>intro h<;>(try intro h')<;>(try simp[h,q0])<;>(try omega)|refine Xg ?_|omega)
  ·have hx:iu (gt s.p.cs s.cur)=1-s.p.side:=OV gQ.1 (by omega) (by assumption) gA
   have q6:=h
   rcases IW with e|e
   ·have ha:=hs.p.h0.at_ _ (by omega) (show ff (gt s.p.cs s.cur)<s.p.h0.length by omega)
    have q1:=zn (l:=s.p.h0) (n:=ff (gt s.p.cs s.cur)) (v:=gt s.p.h0 (ff (gt s.p.cs s.cur))+1) (by omega) (by omega)
    have q2:=gC (l:=s.p.h0) (n:=ff (gt s.p.cs s.cur)) (v:=gt s.p.h0 (ff (gt s.p.cs s.cur))+1) (by omega) (by omega)
    simp[e,q1,q2]
    (with_reducible repeat' first|refine Xk ?_<;>try simp|refine Xs ?_ ?_<;>intro h<;>(try intro h')<;>(try simp[h])<;>(try omega)|refine Xg ?_|omega)
    all_goals simp[oD,hx,q6,Pos.hand,Pos.jv,e,q0,q2]
    ·rw[if_neg (by omega)]
    ·rw[if_pos (by omega)]
   ·have ha:=hs.p.h1.at_ _ (by omega) (show ff (gt s.p.cs s.cur)<s.p.h1.length by omega)
    have q1:=zn (l:=s.p.h1) (n:=ff (gt s.p.cs s.cur)) (v:=gt s.p.h1 (ff (gt s.p.cs s.cur))+1) (by omega) (by omega)
    have q2:=gC (l:=s.p.h1) (n:=ff (gt s.p.cs s.cur)) (v:=gt s.p.h1 (ff (gt s.p.cs s.cur))+1) (by omega) (by omega)
    simp[e,q1,q2]
    (with_reducible repeat' first|refine Xk ?_<;>try simp|refine Xs ?_ ?_<;>intro h<;>(try intro h')<;>(try simp[h])<;>(try omega)|refine Xg ?_|omega)
    all_goals simp[oD,hx,q6,Pos.hand,Pos.jv,e,q0,q2]
    ·rw[if_neg (by omega)]
    ·rw[if_pos (by omega)]
  ·have hx:iu (gt s.p.cs s.cur)=1-s.p.side:=OV gQ.1 (by omega) (by assumption) gA
   simp[oD,hx,h,q0]
theorem f255(g:eO)(hg:fi g)(s:eV)(hs:ix g s)(n:Int):Wf T 255 [dG g,.agg s.cells,.i n] [] (Is (iH (oV g s n))):=by
 have gj:=hs.p.size
 have kz:=hs.cur
 have jl:=hs.p.small hg
 have ht:=hg.gV.to s.p.side n s.cur
 refine Yg CO ?_
 simp[CO]
 refine Yc (f251 g hg.gV s.p.side n s.cur) ?_
 simp
 (with_reducible repeat' first|refine Xk ?_<;>try simp|refine Xs ?_ ?_<;>intro h<;>(try intro h')<;>(try simp[h])<;>(try omega)|refine Xg ?_|omega)
 ·rw[oV,if_pos (by simp_all)]
 ·rw[oV,if_pos (by simp_all)]
 ·have q0:=gC (l:=s.p.cs) (n:=jo g s.p.side n s.cur) (v:=gt s.p.cs s.cur) (by omega) (by omega)
  have q1:=gC (l:=pt s.p.cs (jo g s.p.side n s.cur) (gt s.p.cs s.cur)) (n:=s.cur) (v:=0) kz.1 (by omega)
  refine Yn (Ec s.p jl) ?_
  simp
  (with_reducible repeat' first|refine Xk ?_<;>try simp[q0,q1]|refine Xs ?_ ?_<;>intro h<;>(try intro h')<;>(try simp[h,q0,q1])<;>(try omega)|refine Xg ?_|omega)
  simp[oV, *]
 ·rw[oV,if_pos (by simp_all)]
