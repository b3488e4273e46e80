/- Part 11 of the proof of skewer.skewerlaw15.TableValues. -/
import Derived.Test.YtnaefnajkaohgaaGreatDoorE10
set_option linter.all false
namespace Go.Proofs.YtnaefnajkaohgaaGreatDoor
open Go Go.AL Classical
set_option maxRecDepth 10000
set_option maxHeartbeats 1000000
structure n4(a b:List Pos)(i k:Int)(out:List Pos):Prop where
 i0:0≤i∧i≤a.length
 k0:0≤k∧k≤b.length
 len:(out.length:Int)=i+k
 perm:out.Perm (a.take i.toNat++b.take k.toNat)
 ws:WS out
 le:∀ x∈out,∀ y,y∈a.drop i.toNat∨y∈b.drop k.toNat→gp x y≤0
theorem n4.init(a b:List Pos):n4 a b 0 0 []:=⟨by omega,by omega,rfl,by simp,by simp[WS],by simp⟩
theorem Ry{a:List Pos}(h:WS a){i:Int}(h0:0≤i)(h1:i<a.length){y:Pos}(hy:y∈a.drop i.toNat):gp (gt a i) y≤0:=by
 have h2:WS (a.drop i.toNat):=eM (List.drop_sublist _ _) h
 rw[lB h0 h1]at hy h2
 rcases aq.1 hy with rfl|hy
 ·rw[p8];omega
 ·exact(aJ.1 h2).1 y hy
theorem Yl{α:Type}[Inhabited α]{a:List α}{i:Int}(h0:0≤i)(h1:i<a.length){y:α}:y∈a.drop i.toNat↔y=gt a i∨y∈a.drop (i+1).toNat:=by
 rw[lB h0 h1,aq,show(i+1).toNat=i.toNat+1 by omega]
theorem n4.add{a b:List Pos}{i k:Int}{out:List Pos}(hI:n4 a b i k out)(hi:i<a.length)(ha:WS a)(h:∀ y∈b.drop k.toNat,gp (gt a i) y≤0):n4 a b (i+1) k (out ++ [gt a i]):=by
 have h0:=hI.i0
 have e:∀ y,y∈a.drop i.toNat↔y=gt a i∨y∈a.drop (i+1).toNat:=fun y=>Yl h0.1 hi
 refine⟨by omega,hI.k0,by have:=hI.len;simp;omega,?_,?_,fun x hx y hy=>?_⟩
 ·rw[gE h0.1 hi,bt]
  refine(hI.perm.append_right _).trans ?_
  rw[bt]
  exact List.Perm.append_left _ eN
 ·refine bg.2 ⟨hI.ws,by simp,fun x hx y hy=>?_⟩
  simp at hy;subst hy
  exact hI.le x hx _ (.inl ((e _).2 (.inl rfl)))
 ·rcases List.mem_append.1 hx with hx|hx
  ·exact hI.le x hx y (hy.imp (fun h=>(e _).2 (.inr h)) id)
  ·simp at hx;subst hx
   rcases hy with hy|hy
   ·exact Ry ha h0.1 hi ((e _).2 (.inr hy))
   ·exact h y hy
theorem n4.swap{a b:List Pos}{i k:Int}{out:List Pos}(hI:n4 a b i k out):n4 b a k i out:=
 ⟨hI.k0,hI.i0,by have:=hI.len;omega,hI.perm.trans eN,hI.ws,fun x hx y hy=>hI.le x hx y hy.symm⟩
theorem n4.K4{a b:List Pos}{i k:Int}{out:List Pos}(hI:n4 a b i k out)(hi:i<a.length)(ha:WS a)(hb:WS b)(h:k<b.length→gp (gt a i) (gt b k)≤0):n4 a b (i+1) k (out ++ [gt a i]):=by
 refine hI.add hi ha fun y hy=>?_
 by_cases hk:k<b.length
 ·exact MI (h hk) (Ry hb hI.k0.1 hk hy)
 ·rw[aZ (by have:=hI.k0;omega)]at hy;cases hy
theorem n4.Q'{a b:List Pos}{i k:Int}{out:List Pos}(hI:n4 a b i k out)(hk:k<b.length)(ha:WS a)(hb:WS b)(h:i<a.length→¬ gp (gt a i) (gt b k)≤0):n4 a b i (k+1) (out ++ [gt b k]):=by
 refine(hI.swap.K4 hk hb ha fun hi=>?_).swap
 have:=h hi
 rw[qB];omega
theorem f109:∀ (n:Nat) (l:List Pos),l.length=n→l.length<2 ^ 40→(∀ p∈l,Small p)→Wf T 109 [gb l] [] (Ex gb fun r=>r.Perm l∧WS r):=by
 intro n
 induction n using Nat.strongRecOn with
 | ind n ih=>
 intro l hn hl hs
 refine Yg Cl ?_
 simp[Cl]
 (with_reducible refine Xs ?_ ?_<;>intro h<;>(try intro h')<;>(try simp[h])<;>(try omega))
 ·refine⟨l,rfl,List.Perm.refl _,?_⟩
  unfold WS
  cases l with
  | nil=>simp
  | cons a l=>cases l with
   | nil=>simp
   | cons b l=>simp at h;omega
 ·rw[yB (by omega) (by omega) (by omega)]
  (with_reducible repeat' first|refine Xk ?_<;>try simp|refine Xs ?_ ?_<;>intro h<;>(try intro h')<;>(try simp[h])<;>(try omega)|refine Xg ?_|omega)
  refine Yq (ih (l.length / 2) (by omega) _ (by simp;omega) (by simp;omega) (fun p hp=>hs p (aM hp))) fun a ha=>?_
  simp
  rw[yB (by omega) (by omega) (by omega)]
  (with_reducible repeat' first|refine Xk ?_<;>try simp|refine Xs ?_ ?_<;>intro h<;>(try intro h')<;>(try simp[h])<;>(try omega)|refine Xg ?_|omega)
  refine Yq (ih (l.length-l.length / 2) (by omega) _ (by simp;omega) (by simp;omega) (fun p hp=>hs p (bX (aM hp)))) fun b hb=>?_
  simp
  have la:(a.length:Int)=l.length / 2:=by rw[ha.1.length_eq];simp;omega
  have lb:(b.length:Int)=l.length-l.length / 2:=by rw[hb.1.length_eq];simp;omega
  have sa:∀ p∈a,Small p:=fun p hp=>hs p (aM ((ha.1.mem_iff).1 hp))
  have sb:∀ p∈b,Small p:=fun p hp=>hs p (bX (aM ((hb.1.mem_iff).1 hp)))
  refine fe.j ((0,0,[]):Int×Int×List Pos) (fun x=>[(3,gb a),(4,gb b),(5,.eT 0 x.2.2.length 5 0 x.2.2.length),(6,.i x.1),(7,.i x.2.1)]) (fun x=>[.row 44 x.2.2.length (cl Pos.cells x.2.2)]) (fun x=>n4 a b x.1 x.2.1 x.2.2) (fun x=>a.length+b.length-(x.1+x.2.1).toNat) ?_ (by simp) (by first|rfl|simp) rfl ?_
  ·exact n4.init a b
  rintro⟨i,k,out⟩ hI
  have h0:=hI.i0
  have h1:=hI.k0
  have h2:=hI.len
  dsimp only at hI h0 h1 h2 ⊢
  simp
  (with_reducible repeat' first|refine Xk ?_<;>try simp|refine Xs ?_ ?_<;>intro h<;>(try intro h')<;>(try simp[h])<;>(try omega)|refine Xg ?_|omega)
  ·exact⟨i+1,k,_,by simp,rfl,rfl,by simp,rfl,by omega,hI.K4 (by assumption) ha.2 hb.2 fun h=>by omega⟩
  ·refine Yt (f50 _ _ (sa _ (ff (by omega) (by omega))) (sb _ (ff (by omega) (by omega)))) ?_
   simp[*]
   (with_reducible repeat' first|refine Xk ?_<;>try simp|refine Xs ?_ ?_<;>intro h<;>(try intro h')<;>(try simp[h])<;>(try omega)|refine Xg ?_|omega)
   ·exact⟨i+1,k,_,by simp,rfl,rfl,by simp,rfl,by omega,hI.K4 (by assumption) ha.2 hb.2 fun _=>by assumption⟩
   ·exact⟨i,k+1,_,by simp,rfl,rfl,by simp,rfl,by omega,hI.Q' (by omega) ha.2 hb.2 fun _=>by assumption⟩
  ·exact⟨i,k+1,_,by simp,rfl,rfl,by simp,rfl,by omega,hI.Q' (by omega) ha.2 hb.2 fun _=>by omega⟩
  ·refine⟨out,rfl,?_,hI.ws⟩
   have e1:=hI.perm
   rw[js (by omega),js (by omega)]at e1
   refine e1.trans ((List.Perm.append ha.1 hb.1).trans ?_)
   have e2:(l.drop (↑l.length / 2:Int).toNat).take (l.length-(↑l.length / 2:Int).toNat)=l.drop (↑l.length / 2:Int).toNat:=aF (by rw[br];exact Nat.le_refl _)
   rw[e2,bO]
structure rr(a:List Pos)(i:Int)(out:List Pos):Prop where
 i0:0≤i∧i≤a.length
 len:(out.length:Int)≤i
 mem:∀ q,q∈out↔q∈a.take i.toNat
 st:out.Pairwise fun x y=>gp x y<0
theorem rr.init(a:List Pos):rr a 0 []:=⟨by omega,by simp,by simp,by simp⟩
theorem Rz{a:List Pos}(h:WS a){j:Int}(h0:0≤j)(h1:j<a.length){x:Pos}(hx:x∈a.take (j+1).toNat):gp x (gt a j)≤0:=by
 have h2:WS (a.take (j+1).toNat):=eM (List.take_sublist _ _) h
 rw[gE h0 h1]at hx h2
 rcases List.mem_append.1 hx with hx|hx
 ·exact(bg.1 h2).2.2 x hx _ (by simp)
 ·simp at hx;subst hx;rw[p8];omega
theorem rr.skip{a:List Pos}{i:Int}{out:List Pos}(hI:rr a i out)(hi:i<a.length)(h1:i≠0)(h:gt a i=gt a (i-1)):rr a (i+1) out:=by
 have h0:=hI.i0
 refine⟨by omega,by have:=hI.len;omega,fun q=>?_,hI.st⟩
 rw[hI.mem,gE h0.1 hi,List.mem_append,List.mem_singleton]
 refine⟨.inl,fun hq=>hq.elim id fun hq=>?_⟩
 rw[hq,h]
 have:=gE (l:=a) (n:=i-1) (by omega) (by omega)
 rw[show i-1+1=i by omega]at this
 rw[this];simp
theorem rr.add{a:List Pos}{i:Int}{out:List Pos}(hI:rr a i out)(hi:i<a.length)(ha:WS a)(h:i=0∨gt a i≠gt a (i-1)):rr a (i+1) (out ++ [gt a i]):=by
 have h0:=hI.i0
 refine⟨by omega,by have:=hI.len;simp;omega,fun q=>?_,bg.2 ⟨hI.st,by simp,fun x hx y hy=>?_⟩⟩
 ·rw[List.mem_append,hI.mem,gE h0.1 hi,List.mem_append]
 ·simp at hy;subst hy
  have hx:=(hI.mem x).1 hx
  rcases h with rfl|h
  ·simp at hx
  ·by_cases hz:i=0
   ·subst hz;simp at hx
   have e1:=Rz ha (j:=i-1) (by omega) (by omega) (x:=x) (by rw[show i-1+1=i by omega];exact hx)
   have e2:=Rz ha h0.1 hi (x:=gt a (i-1)) (by
    have:=gE (l:=a) (n:=i-1) (by omega) (by omega)
    rw[show i-1+1=i by omega]at this
    rw[gE h0.1 hi,this];simp)
   have e3:gp (gt a (i-1)) (gt a i)≠0:=fun e=>h (n9.1 e).symm
   by_cases e4:gp x (gt a (i-1))=0
   ·rw[n9.1 e4];omega
   ·exact tS (show gp x (gt a (i-1))<0 by omega) (by omega)
theorem aed{r:List Pos}(h:r.Pairwise fun x y=>gp x y<0):jn r:=by
 intro i h1 h2
 rw[nu (by omega) (by omega),nu (by omega) (by omega)]
 exact bz.1 h _ _ _ _ (by omega)
theorem f61(l:List Pos)(hl:l.length<2 ^ 40)(hs:∀ p∈l,Small p):Wf T 61 [gb l] [] (Ex gb fun r=>jn r∧r.length≤l.length∧∀ q,q∈r↔q∈l):=by
 refine Yg DY ?_
 simp[DY]
 refine Yq (f109 _ l rfl hl hs) fun a ha=>?_
 simp
 have la:a.length=l.length:=ha.1.length_eq
 have sa:∀ p∈a,Small p:=fun p hp=>hs p (ha.1.mem_iff.1 hp)
 refine fe.j ((0,[]):Int×List Pos) (fun x=>[(3,gb a),(4,.eT 0 x.2.length 5 0 x.2.length),(5,.i x.1)]) (fun x=>[.row 44 x.2.length (cl Pos.cells x.2)]) (fun x=>rr a x.1 x.2) (fun x=>a.length-x.1.toNat) ?_ (by simp) (by first|rfl|simp) rfl ?_
 ·exact rr.init a
 rintro⟨i,out⟩ hI
 have h0:=hI.i0
 have h1:=hI.len
 dsimp only at hI h0 h1 ⊢
 simp
 (with_reducible repeat' first|refine Xk ?_<;>try simp|refine Xs ?_ ?_<;>intro h<;>(try intro h')<;>(try simp[h])<;>(try omega)|refine Xg ?_|omega)
 ·exact⟨1,_,by simp,rfl,by simp,rfl,by omega,by subst h;exact hI.add (by assumption) ha.2 (.inl rfl)⟩
 ·refine Yt (f110 _ _ (sa _ (ff (by omega) (by omega))) (sa _ (ff (by omega) (by omega)))) ?_
  simp
  (with_reducible repeat' first|refine Xk ?_<;>try simp|refine Xs ?_ ?_<;>intro h<;>(try intro h')<;>(try simp[h])<;>(try omega)|refine Xg ?_|omega)
  ·exact⟨i+1,_,rfl,rfl,rfl,rfl,by omega,hI.skip (by assumption) (by assumption) (by assumption)⟩
  ·exact⟨i+1,_,by simp,rfl,by simp,rfl,by omega,hI.add (by assumption) ha.2 (.inr (by assumption))⟩
 ·refine⟨out,rfl,aed hI.st,by omega,fun q=>?_⟩
  rw[hI.mem,js (by omega),ha.1.mem_iff]
end Go.Proofs.YtnaefnajkaohgaaGreatDoor
namespace Go.AL
open Go
def JY(H:U)(d:D)(ks:ki):D×U:=(eZ (fL ks) H 40 d,ks.map fun p=>if p.2 then pk (fL ks) H H[p.1]? else .dead)
@[simp] theorem akv(H:U)(d:D)(ks:ki):JY H d ks=(eZ (fL ks) H 40 d,ks.map fun p=>if p.2 then pk (fL ks) H H[p.1]? else .dead):=rfl
def yy(own n:Nat)(H:U)(d:D):List Nat:=match own with|0=>[]|1=>yz n d|3=>((gh H 40 d).filter (n≤·)).take 1|_=>(gh H 40 d).filter (n≤·)
@[simp] theorem amd(n:Nat)(H:U)(d:D):yy 0 n H d = []:=rfl
@[simp] theorem ame(n:Nat)(H:U)(d:D):yy 1 n H d=yz n d:=rfl
@[simp] theorem amf(n:Nat)(H:U)(d:D):yy 2 n H d=(gh H 40 d).filter (n≤·):=rfl
@[simp] theorem amg(n:Nat)(H:U)(d:D):yy 3 n H d=((gh H 40 d).filter (n≤·)).take 1:=rfl
@[simp low] theorem Gh{own n:Nat}{H:U}{d:D}(h:¬ H.length≤n):leave own n H d=JY H d (gq n (dedup ((yy own n H d++((H.take n).map (lU n)).flatten).filter (· < H.length)))):=by
 unfold leave JY yy
 rw[if_neg h]
 rfl
@[simp] theorem amh(n v g sz len:Nat):yz n (.eT v g sz 0 len)=if n≤v then [v]else []:=rfl
theorem BA{H:U}{k:Nat}{d:D}(h:closed d=true):gh H k d = []:=by
 cases k with
 | zero=>rfl
 | succ k=>unfold gh;exact if_pos h
theorem BB{H:U}{k:Nat}{cs:List D}(h:fy cs=true):(cs.map (gh H k)).flatten = []:=by
 induction cs with
 | nil=>rfl
 | cons d r ih=>
  simp only[fy,ah]at h
  simp[BA h.1,ih h.2]
@[simp] theorem amy{H:U}{k:Nat}{d:D}(h:closed d=true):gh H k d = []:=BA h
@[simp] theorem amx(H:U)(k:Nat)(cs:List D):gh H (k+1) (.agg cs)=(cs.map (gh H k)).flatten:=by
 by_cases h:closed (.agg cs)=true
 ·rw[BA h,BB (by simpa using h)]
 ·rw[gh,if_neg h]
@[simp] theorem amE(H:U)(k:Nat)(cs:List D):gh H (k+1) (.tup cs)=(cs.map (gh H k)).flatten:=by
 by_cases h:closed (.tup cs)=true
 ·rw[BA h,BB (by simpa using h)]
 ·rw[gh,if_neg h]
def yF(H:U)(k:Nat):Option Ob→List Nat
 | some (.row _ _ cs)=>(cs.map (gh H k)).flatten
 | _=>[]
@[simp] theorem amG(H:U)(k t g:Nat)(cs:List D):yF H k (some (.row t g cs))=(cs.map (gh H k)).flatten:=rfl
@[simp] theorem amF(H:U)(k:Nat)(kk:KK)(es:List (Value×D)):yF H k (some (.map kk es)) = []:=rfl
theorem Qu(H:U)(k v:Nat):(match rowsOf H v with|some (_,_,cs)=>(cs.map (gh H k)).flatten|none=>[])=yF H k H[v]? := by
 unfold rowsOf yF
 cases h:H[v]? with
 | none=>rfl
 | some o=>cases o<;>rfl
@[simp] theorem amB(H:U)(k v g sz off n:Nat):gh H (k+1) (.eT v g sz off n)=v::yF H k H[v]? := by
 rw[gh,if_neg (by simp)]
 exact congrArg _ (Qu H k v)
@[simp] theorem amC(H:U)(k v g off:Nat):gh H (k+1) (.ptr v g off)=v::yF H k H[v]? := by
 rw[gh,if_neg (by simp)]
 exact congrArg _ (Qu H k v)
@[simp] theorem amA(H:U)(k v:Nat):gh H (k+1) (.omap v) = [v]:=by
 rw[gh,if_neg (by simp)]
@[simp] theorem amD{H:U}{k:Nat}{α:Type}{f:α→List D}{sz:Nat}[F:Fl f sz](l:List α):((cl f l).map (gh H k)).flatten = []:=BB (p7 l)
@[simp low] theorem ajo{ρ:Nat→Option Nat}{H:U}{k sz:Nat}{t:TypeId}{cs:List D}(h:cs.length=sz):lY ρ H k sz 0 1 (some (t,cs)) = .sl sz [cs.map (eZ ρ H k)]:=by
 subst h
 unfold lY
 simp[chunks,aF]
@[simp] theorem anD{a b c:List Int}{r q w u:Int}{o:Bool}:D.sl 8 [[dI a,dI b,dI c,.i r,.i q,.i w,.i u,.b o]]=iT [⟨⟨a,b,c,r,q⟩,w,u,o⟩]:=by unfold iT;rfl
end Go.AL
namespace Go.Proofs.YtnaefnajkaohgaaGreatDoor
open Go Go.AL Classical
set_option maxRecDepth 10000
set_option maxHeartbeats 1000000
theorem E8(p:Pos)(hp:Small p):Wf T 155 [dP p] [] (fun d H=>d = .agg [.eT 0 1 1 0 p.cs.length,.eT 1 1 1 0 p.h0.length,.eT 2 1 1 0 p.h1.length,.i p.fq,.i p.side]∧H = [.row 3 1 (cl f1 p.cs),.row 3 1 (cl f1 p.h0),.row 3 1 (cl f1 p.h1)]):=by
 obtain⟨h1,h2,h3⟩:=hp
 refine Wf.xo 2 (fn:=tC) rfl (by simp[tC]) ?_
 simp[tC]
 (with_reducible repeat' first|refine Xk ?_<;>try simp|refine Xs ?_ ?_<;>intro h<;>(try intro h')<;>(try simp[h])<;>(try omega)|refine Xg ?_|omega)
 all_goals trace_state
theorem f250(a b:e9)(ha:Small a.p)(hb:Small b.p):Wf T 250 [.agg a.cells,.agg b.cells] [] (Is (.b (decide (a=b)))):=by
 have e:(a=b)↔a.p=b.p∧a.kind=b.kind∧a.cur=b.cur∧a.iu=b.iu:=by cases a;cases b;simp
 have e2:decide (a=b)=decide (a.p=b.p∧a.kind=b.kind∧a.cur=b.cur∧a.iu=b.iu):=decide_eq_decide.2 e
 rw[e2]
 refine Yg Dv ?_
 simp[Dv]
 (with_reducible repeat' first|refine Xk ?_<;>try simp|refine Xs ?_ ?_<;>intro h<;>(try intro h')<;>(try simp[h])<;>(try omega)|refine Xg ?_|omega)
 ·refine Yc (f50 _ _ ha hb) ?_
  simp
  simp_all [n9]
 all_goals (intros;simp_all)
theorem f252(s:e9)(b:Bool):Wf T 252 [.agg s.cells,.b b] [] (Is (iT (if b then [s]else []))):=by
 refine Yg Dx ?_
 simp[Dx]
 (with_reducible repeat' first|refine Xk ?_<;>try simp|refine Xs ?_ ?_<;>intro h<;>(try intro h')<;>(try simp[h])<;>(try omega)|refine Xg ?_|omega)
def Ba(a b:fD):Prop:=gp a.p b.p<0∨(gp a.p b.p=0∧a.iu=false∧b.iu=true)
theorem f229(a b:fD)(ha:Small a.p)(hb:Small b.p):Wf T 229 [.agg a.cells,.agg b.cells] [] (Is (.b (decide (Ba a b)))):=by
 refine Yg Dn ?_
 simp[Dn]
 refine Yc (f50 _ _ ha hb) ?_
 simp
 (with_reducible repeat' first|refine Xk ?_<;>try simp|refine Xs ?_ ?_<;>intro h<;>(try intro h')<;>(try simp[h])<;>(try omega)|refine Xg ?_|omega)
 all_goals by_cases hc:gp a.p b.p<0<;>simp[*,Ba]at *
theorem f263(g:eU)(hg:l7 g)(s d c:Int):Wf T 263 [g.ib,.i s,.i d,.i c] [] (Is (dI (jz g s d c))):=by
 have hb:=hg.size
 refine Yg DC ?_
 simp[DC]
 refine Yc (f251 g hg s d c) ?_
 simp
 refine fe.j ((0,jB g s d c,[]):Nat×Int×List Int) (fun x=>[(1,.i s),(2,.i d),(3,.i c),(4,.ptr 0 0 0),(9,.eT 1 x.2.2.length 1 0 x.2.2.length),(10,.i x.2.1)]) (fun x=>[.row 37 0 [.i g.size,.sl 1 (g.next.map fI),dI g.gV],.row 3 x.2.2.length (cl f1 x.2.2)]) (fun x=>x.1=x.2.2.length∧x.2.1<g.size∧x.2.2.Nodup∧(∀ y∈x.2.2,0≤y∧y<g.size)∧jz g s d c=pK g s d c (10-x.1) x.2.1 x.2.2) (fun x=>10-x.1) ?_ (by simp) (by first|rfl|simp) rfl ?_
 ·have:=hg.to s d c
  simp[jz];omega
 rintro⟨m,x,out⟩ ⟨h0,h1,h2,h3,h4⟩
 dsimp only at h0 h1 h2 h3 h4 ⊢
 have hm:out.length≤9:=uL 9 out h2 (fun y hy=>by have:=h3 y hy;omega)
 have e:=h4
 rw[show 10-m=(9-m)+1 by omega,pK]at e
 simp
 (with_reducible repeat' first|refine Xk ?_<;>try simp|refine Xs ?_ ?_<;>intro h<;>(try intro h')<;>(try simp[h])<;>(try omega)|refine Xg ?_|omega)
 ·rw[e,if_neg (by omega)]
 ·refine fw.r rfl rfl (f25 out x (by omega)) (by simp) rfl (by simp) ?_
  simp
  (with_reducible repeat' first|refine Xk ?_<;>try simp|refine Xs ?_ ?_<;>intro h<;>(try intro h')<;>(try simp[h])<;>(try omega)|refine Xg ?_|omega)
  ·rw[e,if_neg (by rintro⟨_,_,hh⟩;exact hh ‹_›)]
  ·refine Yc (f251 g hg s d x) ?_
   simp
   refine⟨out.length+1,_,out ++ [x],by simp,rfl,by simp,rfl,by omega,by simp,(hg.to _ _ _).2,?_,?_,?_⟩
   ·rw[aP]
    refine⟨h2,by simp,fun y hy z hz=>?_⟩
    simp at hz
    subst hz
    intro e3
    subst e3
    exact absurd hy ‹_›
   ·intro y hy
    simp at hy
    rcases hy with hy|rfl
    ·exact h3 y hy
    ·omega
   ·rw[e,if_pos ⟨by omega,by omega,by assumption⟩,h0,show 9-out.length=10-(out.length+1)by omega]
 ·rw[e,if_neg (by omega)]
set_option maxRecDepth 10000
set_option maxHeartbeats 1000000
theorem f253(g:eU)(hg:fr g)(s:e9)(hs:iD g s)(n:Int):Wf T 253 [dG g,.agg s.cells,.i n] [] (Is (iT (nD s (jz g s.p.side n s.cur)))):=by
 have hl:=J2 (g:=g) (s:=s.p.side) (d:=n) (c:=s.cur)
 have gy:=hs.p.size
 refine Yg Dy ?_
 simp[Dy]
 refine Yc (f263 g hg.ib s.p.side n s.cur) ?_
 simp
 generalize hL:jz g s.p.side n s.cur=L at *
 have fF:∀ y∈L,0≤y∧y<g.size:=fun y hy=>J1 hg.ib (hL▸hy)
 refine fe.j ((0,[]):Int×List e9) (fun x=>[(4,.ptr 1 0 0),(7,.eT 2 x.2.length 8 0 x.2.length),(8,dI L),(9,.i x.1)]) (fun x=>[.row 41 0 g.cells,.row 282 0 s.cells,.row 282 x.2.length (cl e9.cells x.2)]) (fun x=>0≤x.1∧x.1≤L.length∧x.2.length=x.1.toNat∧nD s L=x.2++nD s (L.drop x.1.toNat)) (fun x=>L.length-x.1.toNat) ?_ (by simp) (by first|rfl|simp) rfl ?_
 ·simp
 rintro⟨i,out⟩ ⟨h0,h1,h2,h3⟩
 dsimp only at h0 h1 h2 h3 ⊢
 simp
 (with_reducible repeat' first|refine Xk ?_<;>try simp|refine Xs ?_ ?_<;>intro h<;>(try intro h')<;>(try simp[h])<;>(try omega)|refine Xg ?_|omega)
 ·have hc:=fF _ (ff h0 ‹_›)
  rw[lB h0 ‹_›,nD]at h3
  (with_reducible repeat' first|refine Xk ?_<;>try simp|refine Xs ?_ ?_<;>intro h<;>(try intro h')<;>(try simp[h])<;>(try omega)|refine Xg ?_|omega)
  ·refine⟨i+1,out ++ [{ s with cur:=gt L i }],by simp,rfl,by simp,by rw[← oZ],by omega,by omega,by omega,by simp[h2];omega,?_⟩
   rw[h3,if_pos ‹_›,show(i+1).toNat=i.toNat+1 by omega];simp
  ·rw[if_neg ‹_›]at h3
   rw[h3]
   simp[iT]
 ·rw[aZ (by omega)]at h3
  rw[h3];simp[nD]
theorem PF{n s:Int}(_:0≤n)(hk:0≤fo n)(h:iA n≠s)(hs:0≤s∧s≤1):iA n=1-s:=by
 unfold fo iA at *
 split at hk
 ·rename_i e;rw[if_pos e]at h ⊢;omega
 ·omega
theorem f254(g:eU)(hg:fr g)(s:e9)(hs:iD g s):Wf T 254 [dG g,.agg s.cells] [] (Is (iT (oS g s))):=by
 have gy:=hs.p.size
 have kQ:=hs.cur
 have jy:=hs.p.small hg
 refine Yg Dz ?_
 simp[Dz]
 (with_reducible repeat' first|refine Xk ?_<;>try simp|refine Xs ?_ ?_<;>intro h<;>(try intro h')<;>(try simp[h])<;>(try omega)|refine Xg ?_|omega)
 refine Yc (f51 _) ?_
 simp
 have ic:=hs.p.cs _ (ff kQ.1 (by omega))
 have nz:=hg.kinds
 have gH:=hs.p.side
 (with_reducible repeat' first|refine Xk ?_<;>try simp|refine Xs ?_ ?_<;>intro h<;>(try intro h')<;>(try simp[h])<;>(try omega)|refine Xg ?_|omega)
 ·rw[oS,if_pos]
  unfold fo at *;unfold iA
  split at h<;>rename_i h5
  ·omega
  ·rw[if_neg h5];omega
 ·rw[oS,if_pos (by omega)]
 ·have hm:fo (gt s.p.cs s.cur)<g.kinds.length:=r7 ic.2 nz.1
  have JA:s.p.side=0∨s.p.side=1:=by omega
  have l0:=hs.p.h0.len
  have l1:=hs.p.h1.len
  have q0:=gI (l:=s.p.cs) (n:=s.cur) (v:=0) kQ.1 (by omega)
  refine Yn (E8 s.p jy) ?_
  simp
  (with_reducible repeat' first|refine Xk ?_<;>try simp[q0]|refine Xs ?_ ?_<;>intro h<;>(try intro h')<;>(try simp[h,q0])<;>(try omega)|refine Xg ?_|omega)
  ·have hx:iA (gt s.p.cs s.cur)=1-s.p.side:=PF ic.1 (by omega) (by assumption) gH
   have rM:=h
   rcases JA with e|e
   ·have ha:=hs.p.h0.at_ _ (by omega) (show fo (gt s.p.cs s.cur)<s.p.h0.length by omega)
    have q1:=xH (l:=s.p.h0) (n:=fo (gt s.p.cs s.cur)) (v:=gt s.p.h0 (fo (gt s.p.cs s.cur))+1) (by omega) (by omega)
    have q2:=gI (l:=s.p.h0) (n:=fo (gt s.p.cs s.cur)) (v:=gt s.p.h0 (fo (gt s.p.cs s.cur))+1) (by omega) (by omega)
    simp[e,q1,q2]
    (with_reducible repeat' first|refine Xk ?_<;>try simp|refine Xs ?_ ?_<;>intro h<;>(try intro h')<;>(try simp[h])<;>(try omega)|refine Xg ?_|omega)
    all_goals simp[oS,hx,rM,Pos.hand,Pos.jG,e,q0,q2]
    ·rw[if_neg (by omega)]
    ·rw[if_pos (by omega)]
   ·have ha:=hs.p.h1.at_ _ (by omega) (show fo (gt s.p.cs s.cur)<s.p.h1.length by omega)
    have q1:=xH (l:=s.p.h1) (n:=fo (gt s.p.cs s.cur)) (v:=gt s.p.h1 (fo (gt s.p.cs s.cur))+1) (by omega) (by omega)
    have q2:=gI (l:=s.p.h1) (n:=fo (gt s.p.cs s.cur)) (v:=gt s.p.h1 (fo (gt s.p.cs s.cur))+1) (by omega) (by omega)
    simp[e,q1,q2]
    (with_reducible repeat' first|refine Xk ?_<;>try simp|refine Xs ?_ ?_<;>intro h<;>(try intro h')<;>(try simp[h])<;>(try omega)|refine Xg ?_|omega)
    all_goals simp[oS,hx,rM,Pos.hand,Pos.jG,e,q0,q2]
    ·rw[if_neg (by omega)]
    ·rw[if_pos (by omega)]
  ·have hx:iA (gt s.p.cs s.cur)=1-s.p.side:=PF ic.1 (by omega) (by assumption) gH
   simp[oS,hx,h,q0]
theorem f255(g:eU)(hg:fr g)(s:e9)(hs:iD g s)(n:Int):Wf T 255 [dG g,.agg s.cells,.i n] [] (Is (iT (ph g s n))):=by
 have gy:=hs.p.size
 have kQ:=hs.cur
 have jy:=hs.p.small hg
 have ht:=hg.ib.to s.p.side n s.cur
 refine Yg DA ?_
 simp[DA]
 refine Yc (f251 g hg.ib s.p.side n s.cur) ?_
 simp
 (with_reducible repeat' first|refine Xk ?_<;>try simp|refine Xs ?_ ?_<;>intro h<;>(try intro h')<;>(try simp[h])<;>(try omega)|refine Xg ?_|omega)
 ·rw[ph,if_pos (by simp_all)]
 ·rw[ph,if_pos (by simp_all)]
 ·have q0:=gI (l:=s.p.cs) (n:=jB g s.p.side n s.cur) (v:=gt s.p.cs s.cur) (by omega) (by omega)
  have q1:=gI (l:=pt s.p.cs (jB g s.p.side n s.cur) (gt s.p.cs s.cur)) (n:=s.cur) (v:=0) kQ.1 (by omega)
  refine Yn (E8 s.p jy) ?_
  simp
  (with_reducible repeat' first|refine Xk ?_<;>try simp[q0,q1]|refine Xs ?_ ?_<;>intro h<;>(try intro h')<;>(try simp[h,q0,q1])<;>(try omega)|refine Xg ?_|omega)
  simp[ph, *]
 ·rw[ph,if_pos (by simp_all)]
end Go.Proofs.YtnaefnajkaohgaaGreatDoor
namespace Go.AL
open Go
def mn(n:Nat):D→Bool
 | .eT v _ _ _ _ | .ptr v _ _ | .omap v | .gP v=>decide (v<n)
 | d=>closed d
def kh(n:Nat):D→Bool
 | .agg cs | .tup cs | .fh cs=>cs.all (mn n)
 | .fn _ a b=>a.all (mn n)&&b.all (mn n)
 | d=>mn n d
def qW(n:Nat):Ob→Bool
 | .row _ _ cs=>cs.all (kh n)
 | .map _ es=>es.all fun x=>kh n x.2
 | .gg _ env _=>env.all fun x=>kh n x.2
 | .pn _ _=>true
 | .jd m _ _=>mn n m
 | .jv=>true
 | .dead=>true
 | .hole=>false
def pQ(n:Nat)(H:U):Prop:=∀ o∈H,qW n o=true
theorem KU{ρ:Nat→Option Nat}{H:U}{n k:Nat}(jE:∀ u,u<n→ρ u=some u){d:D}(h:mn n d=true):eZ ρ H (k+1) d=d:=by
 cases d with
 | eT v g sz off len=>simp only[mn,decide_eq_true_eq]at h;rw[BP,jE v h,QX]
 | ptr v g off=>simp only[mn,decide_eq_true_eq]at h;rw[adO,jE v h,adI]
 | omap v=>simp only[mn,decide_eq_true_eq]at h;rw[adN,jE v h,adH]
 | gP v=>
  simp only[mn,decide_eq_true_eq]at h
  rw[eZ,if_neg (by simp)]
  rw[jE v h]
 | _=>exact lI h
theorem Be{ρ:Nat→Option Nat}{H:U}{n k:Nat}(jE:∀ u,u<n→ρ u=some u){cs:List D}(h:cs.all (mn n)=true):cs.map (eZ ρ H (k+1))=cs:=by
 conv=>rhs;rw[← aT cs]
 exact aj fun d hd=>KU jE (ar.1 h d hd)
theorem BQ{ρ:Nat→Option Nat}{H:U}{n k:Nat}(jE:∀ u,u<n→ρ u=some u){d:D}(h:kh n d=true):eZ ρ H (k+2) d=d:=by
 cases d with
 | agg cs=>rw[adL,Be jE h]
 | tup cs=>rw[adQ,Be jE h]
 | fh cs=>
  by_cases hc:closed (.fh cs)=true
  ·exact lI hc
  ·rw[eZ,if_neg hc,Be jE h]
 | fn f a b=>
  simp only[kh,ah]at h
  by_cases hc:closed (.fn f a b)=true
  ·exact lI hc
  ·rw[eZ,if_neg hc,Be jE h.1,Be jE h.2]
 | _=>exact KU jE h
theorem adK{ρ:Nat→Option Nat}{H:U}{n:Nat}(jE:∀ u,u<n→ρ u=some u){o:Ob}(h:qW n o=true):iL ρ H o=o:=by
 have key:∀ {α:Type} (l:List (α×D)),(l.all fun x=>kh n x.2)=true→(l.map fun x=>(x.1,eZ ρ H 40 x.2))=l:=by
  intro α l hl
  conv=>rhs;rw[← aT l]
  exact aj fun x hx=>by
   have:=ar.1 hl x hx
   rw[BQ jE this];rfl
 cases o with
 | row t g cs=>
  simp only[iL]
  congr 1
  conv=>rhs;rw[← aT cs]
  exact aj fun d hd=>BQ jE (ar.1 h d hd)
 | map kk es=>simp only[iL];rw[key es h]
 | gg rf env st=>simp only[iL];rw[key env h]
 | pn=>rfl
 | jd m since seen=>simp only[iL];rw[KU jE h]
 | jv=>rfl
 | dead=>rfl
 | hole=>cases h
theorem BG{n u:Nat}(h:u<n):fL (gq n []) u=some u:=by
 unfold fL gq
 rw[List.map_nil,aw]
 rw[bQ]
 refine⟨by simpa using h,by simp,fun j hj=>by simp;omega⟩
theorem KS{n:Nat}{H G:U}(hn:H.length=n)(h:pQ n H):lV (gq n []) (H++G)=H:=by
 unfold lV
 refine bM fun i=>?_
 rw[au]
 unfold gq
 rw[List.map_nil,aw,au]
 by_cases hi:i<n
 ·rw[bZ hi]
  simp only[a8,if_true]
  rw[ag (by omega),List.getElem?_eq_getElem (by omega)]
  simp only
  congr 1
  have e:((List.range n).map fun v=>(v,true))=gq n []:=by unfold gq;simp
  rw[e]
  exact adK (fun u hu=>BG hu) (h _ (bJ _))
 ·rw[aI (by simp;omega),aI (by omega)];rfl
theorem Hs{n:Nat}{d:D}(h:kh n d=true):gG n d = []:=by
 cases d<;>first|rfl|(simp only[kh,mn,decide_eq_true_eq]at h;simp only[gG];rw[if_neg (by omega)])
theorem flatten_nil{α β:Type}{f:α→List β}:∀ {l:List α},(∀ a∈l,f a = [])→(l.map f).flatten = []
 | [],_=>rfl
 | a::l,h=>by rw[List.map_cons,aN,h a (by simp),flatten_nil fun b hb=>h b (by simp[hb])];rfl
theorem YM{n:Nat}{o:Ob}(h:qW n o=true):lU n o = []:=by
 cases o with
 | row t g cs=>exact flatten_nil fun d hd=>Hs (ar.1 h d hd)
 | map kk es=>exact flatten_nil fun x hx=>Hs (ar.1 h x hx)
 | _=>rfl
theorem S0{n:Nat}{live:List Nat}{env:Env}{H G:U}{m:List Nat}{r:Bool}(hn:H.length=n)(hH:pQ n H)(he:((forget live env).all fun p=>kh n p.2)=true)(hm:(m.all fun v=>decide (v<n))=true) :
  cut n live { env:=env,H:=H++G,marks:=m,fG:=r } = { env:=forget live env,H:=H,marks:=m,fG:=r }:=by
 by_cases hg:(H++G).length≤n
 ·have:G = []:=by
   cases G with
   | nil=>rfl
   | cons a l=>simp at hg;omega
  subst this
  rw[aw]
  exact xA (by show H.length≤n;omega)
 ·unfold cut
  dsimp only
  rw[if_neg hg]
  have e1:((forget live env).map fun p=>gG n p.2).flatten = []:=flatten_nil fun p hp=>Hs (ar.1 he p hp)
  have e2:(((H++G).take n).map (lU n)).flatten = []:=flatten_nil fun o ho=>by
   rw[bn (by omega),aF (by omega)]at ho
   exact YM (hH o ho)
  have e3:m.filter (n≤·) = []:=by
   rw[cF]
   intro v hv
   have:=ar.1 hm v hv
   simp at this ⊢;omega
  rw[e1,e2,e3]
  have e4:dedup (([] ++ [] ++ []:List Nat).filter (· < (H++G).length)) = []:=rfl
  rw[e4,KS hn hH]
  congr 1
  ·conv=>rhs;rw[← aT (forget live env)]
   exact aj fun p hp=>by
    rw[BQ (fun u hu=>BG hu) (ar.1 he p hp)];rfl
  ·conv=>rhs;rw[← aT m]
   exact aj fun v hv=>by
    have:=ar.1 hm v hv
    rw[BG (by simpa using this)];rfl
theorem ab7{n v:Nat}{H:U}{o:Ob}(h:pQ n H)(ho:qW n o=true):pQ n (H.set v o):=fun x hx=>by
 rcases List.mem_or_eq_of_mem_set hx with hx|rfl
 ·exact h x hx
 ·exact ho
theorem yK{n:Nat}{d:D}(h:closed d=true):mn n d=true:=by
 cases d<;>first|exact h|(cases h;done)|(simp only[closed]at h;cases h)
theorem Q2{n:Nat}{d:D}(h:closed d=true):kh n d=true:=by
 cases d with
 | agg cs=>exact ar.2 fun d hd=>yK (kE (by simpa using h) d hd)
 | tup cs=>exact ar.2 fun d hd=>yK (kE (by simpa using h) d hd)
 | fh cs=>exact ar.2 fun d hd=>yK (kE (by simpa using h) d hd)
 | fn f a b=>
  simp only[HU,ah]at h
  simp only[kh,ah]
  exact⟨ar.2 fun d hd=>yK (kE h.1 d hd),ar.2 fun d hd=>yK (kE h.2 d hd)⟩
 | _=>exact yK (n:=n) h
@[simp] theorem anj{n:Nat}{d:D}(h:closed d=true):kh n d=true:=Q2 h
@[simp] theorem ann(n v g sz off len:Nat):kh n (.eT v g sz off len)=decide (v<n):=rfl
@[simp] theorem ano(n v g off:Nat):kh n (.ptr v g off)=decide (v<n):=rfl
@[simp] theorem anm(n v:Nat):kh n (.omap v)=decide (v<n):=rfl
@[simp] theorem ani(n:Nat)(cs:List D):kh n (.agg cs)=cs.all (mn n):=rfl
@[simp] theorem anp(n:Nat)(cs:List D):kh n (.tup cs)=cs.all (mn n):=rfl
@[simp] theorem anr(n v g sz off len:Nat):mn n (.eT v g sz off len)=decide (v<n):=rfl
@[simp] theorem ans(n v g off:Nat):mn n (.ptr v g off)=decide (v<n):=rfl
@[simp] theorem ank(n:Nat)(f:Fn)(a b:List D):kh n (.fn f a b)=(a.all (mn n)&&b.all (mn n)):=rfl
@[simp high] theorem XA{α:Type}[Inhabited α]{f:α→List D}{sz:Nat}[F:Fl f sz]{l:List α}{t:TypeId}{n:Int}(hz:0<sz):uG sz (n.toNat*sz) (some (t,cl f l))=if n.toNat<l.length then some (.agg (f (gt l n)))else none:=by
 have h:=YK (f:=f) (l:=l) (t:=t) (n:=n) (P:=fun d=>d = .agg (f (gt l n))) hz
 simp only[and_true]at h
 by_cases hn:n.toNat<l.length
 ·rw[if_pos hn]
  obtain⟨d,h1,h2⟩:=h.mpr hn
  rw[h1,h2]
 ·rw[if_neg hn]
  unfold uG
  dsimp only
  rw[if_neg]
  rw[zK,← bU,eB hz]
  omega
section
variable{T:gj}{a b:IR}{s:St}{K:gA}{id n:Nat}{live:List Nat}
@[simp ↓] theorem alf:GD T b K (.norm s)=Wc T b s K:=(rfl)
@[simp ↓] theorem ale:GD T b K (.exit id s)=K (.exit id s):=(rfl)
@[simp ↓] theorem alg:GD T b K (.ret s)=K (.ret s):=(rfl)
end
def LJ{α:Type}(E:α→Env)(Hp:α→U)(ms:List Nat)(rd:Bool)(Q:α→Prop)(_:Tag (E,Hp,ms,rd,Q))(e:Env)(H:U)(m:List Nat)(r:Bool):Prop:=
 ∃ x',e=E x'∧H=Hp x'∧m=ms∧r=rd∧Q x'
theorem LJ.e{α:Type}{E:α→Env}{Hp:α→U}{ms:List Nat}{rd:Bool}{Q:α→Prop}{t:Tag (E,Hp,ms,rd,Q)}{e:Env}{H:U}{m:List Nat}{r:Bool}(x':α)(h5:Q x')(h1:e=E x':=by first|rfl|simp)(h2:H=Hp x':=by first|rfl|simp)(h3:m=ms:=by exact rfl)(h4:r=rd:=by exact rfl):LJ E Hp ms rd Q t e H m r:=⟨x',h1,h2,h3,h4,h5⟩
theorem LJ.i{α:Type}{E:α→Env}{Hp:α→U}{ms:List Nat}{rd:Bool}{Q:α→Prop}{t:Tag (E,Hp,ms,rd,Q)}{e:Env}{H:U}{m:List Nat}{r:Bool}(x':α)(h1:e=E x')(h2:H=Hp x')(h3:m=ms)(h4:r=rd)(h5:Q x'):LJ E Hp ms rd Q t e H m r:=⟨x',h1,h2,h3,h4,h5⟩
section
variable{T:gj}{live:List Nat}{a:IR}{s:St}{K:gA}{α:Type}
theorem fe.k(x0:α)(E:α→Env)(Hp:α→U)(P:α→Prop)(μ:α→Nat)
  (h0:P x0) (hE:forget ((E x0).map (·.1)) s.env=E x0) (hH:s.H=Hp x0) (hm:s.marks = []) (hr:s.fG=false) (nN:(((E x0).map (·.1)).all fun k=>live.contains k)=true)
  (h:∀ x,P x→XC T a { env:=E x,H:=Hp x } (qT s.H.length live ((E x0).map (·.1)) (LJ E Hp [] false (fun x'=>μ x'<μ x∧P x') .mk) K)):fe T live a s K .mk:=
 fe.j x0 E Hp P μ h0 hE hH nN (by rw[hm,hr];exact h)
theorem fe.v(x0:α)(E:α→Env)(Hp:α→U)(P:α→Prop)(μ:α→Nat)
  (h0:P x0) (hE:forget ((E x0).map (·.1)) s.env=E x0) (hH:s.H=Hp x0) (hm:s.marks = []) (hr:s.fG=false) (nN:(((E x0).map (·.1)).all fun k=>live.contains k)=true)
  (h:∀ x,P x→Wc T (jm a) { env:=E x,H:=Hp x } (qT s.H.length live ((E x0).map (·.1)) (LJ E Hp [] false (fun x'=>μ x'<μ x∧P x') .mk) K)):fe T live a s K .mk:=
 fe.w x0 E Hp P μ h0 hE hH nN (by rw[hm,hr];exact h)
end
@[simp] theorem aih{α:Type}{f:α→List D}[Fl f 1](l:List α)(n:Nat):(cl f l).take n=cl f (l.take n):=by simpa using sH (f:=f) l n
@[simp] theorem aid{α:Type}{f:α→List D}[Fl f 1](l:List α)(n:Nat):(cl f l).drop n=cl f (l.drop n):=by simpa using sG (f:=f) l n
@[simp] theorem akb(K:List Nat):gq 5 K=(0,true)::(1,true)::(2,true)::(3,true)::(4,true)::K.map fun v=>(v,true):=rfl
@[simp] theorem akc(K:List Nat):gq 6 K=(0,true)::(1,true)::(2,true)::(3,true)::(4,true)::(5,true)::K.map fun v=>(v,true):=rfl
@[simp] theorem akd(K:List Nat):gq 7 K=(0,true)::(1,true)::(2,true)::(3,true)::(4,true)::(5,true)::(6,true)::K.map fun v=>(v,true):=rfl
@[simp] theorem ake(K:List Nat):gq 8 K=(0,true)::(1,true)::(2,true)::(3,true)::(4,true)::(5,true)::(6,true)::(7,true)::K.map fun v=>(v,true):=rfl
@[simp] theorem akf(K:List Nat):gq 9 K=(0,true)::(1,true)::(2,true)::(3,true)::(4,true)::(5,true)::(6,true)::(7,true)::(8,true)::K.map fun v=>(v,true):=rfl
@[simp] theorem ajV(K:List Nat):gq 10 K=(0,true)::(1,true)::(2,true)::(3,true)::(4,true)::(5,true)::(6,true)::(7,true)::(8,true)::(9,true)::K.map fun v=>(v,true):=rfl
@[simp] theorem ajW(K:List Nat):gq 11 K=(0,true)::(1,true)::(2,true)::(3,true)::(4,true)::(5,true)::(6,true)::(7,true)::(8,true)::(9,true)::(10,true)::K.map fun v=>(v,true):=rfl
@[simp] theorem ajX(K:List Nat):gq 12 K=(0,true)::(1,true)::(2,true)::(3,true)::(4,true)::(5,true)::(6,true)::(7,true)::(8,true)::(9,true)::(10,true)::(11,true)::K.map fun v=>(v,true):=rfl
@[simp] theorem ajY(K:List Nat):gq 13 K=(0,true)::(1,true)::(2,true)::(3,true)::(4,true)::(5,true)::(6,true)::(7,true)::(8,true)::(9,true)::(10,true)::(11,true)::(12,true)::K.map fun v=>(v,true):=rfl
@[simp] theorem ajZ(K:List Nat):gq 14 K=(0,true)::(1,true)::(2,true)::(3,true)::(4,true)::(5,true)::(6,true)::(7,true)::(8,true)::(9,true)::(10,true)::(11,true)::(12,true)::(13,true)::K.map fun v=>(v,true):=rfl
@[simp] theorem aj0(K:List Nat):gq 15 K=(0,true)::(1,true)::(2,true)::(3,true)::(4,true)::(5,true)::(6,true)::(7,true)::(8,true)::(9,true)::(10,true)::(11,true)::(12,true)::(13,true)::(14,true)::K.map fun v=>(v,true):=rfl
@[simp] theorem aj1(K:List Nat):gq 16 K=(0,true)::(1,true)::(2,true)::(3,true)::(4,true)::(5,true)::(6,true)::(7,true)::(8,true)::(9,true)::(10,true)::(11,true)::(12,true)::(13,true)::(14,true)::(15,true)::K.map fun v=>(v,true):=rfl
@[simp] theorem aj2(K:List Nat):gq 17 K=(0,true)::(1,true)::(2,true)::(3,true)::(4,true)::(5,true)::(6,true)::(7,true)::(8,true)::(9,true)::(10,true)::(11,true)::(12,true)::(13,true)::(14,true)::(15,true)::(16,true)::K.map fun v=>(v,true):=rfl
@[simp] theorem aj3(K:List Nat):gq 18 K=(0,true)::(1,true)::(2,true)::(3,true)::(4,true)::(5,true)::(6,true)::(7,true)::(8,true)::(9,true)::(10,true)::(11,true)::(12,true)::(13,true)::(14,true)::(15,true)::(16,true)::(17,true)::K.map fun v=>(v,true):=rfl
@[simp] theorem aj4(K:List Nat):gq 19 K=(0,true)::(1,true)::(2,true)::(3,true)::(4,true)::(5,true)::(6,true)::(7,true)::(8,true)::(9,true)::(10,true)::(11,true)::(12,true)::(13,true)::(14,true)::(15,true)::(16,true)::(17,true)::(18,true)::K.map fun v=>(v,true):=rfl
@[simp] theorem aj5(K:List Nat):gq 20 K=(0,true)::(1,true)::(2,true)::(3,true)::(4,true)::(5,true)::(6,true)::(7,true)::(8,true)::(9,true)::(10,true)::(11,true)::(12,true)::(13,true)::(14,true)::(15,true)::(16,true)::(17,true)::(18,true)::(19,true)::K.map fun v=>(v,true):=rfl
@[simp] theorem aj6(K:List Nat):gq 21 K=(0,true)::(1,true)::(2,true)::(3,true)::(4,true)::(5,true)::(6,true)::(7,true)::(8,true)::(9,true)::(10,true)::(11,true)::(12,true)::(13,true)::(14,true)::(15,true)::(16,true)::(17,true)::(18,true)::(19,true)::(20,true)::K.map fun v=>(v,true):=rfl
@[simp] theorem aj7(K:List Nat):gq 22 K=(0,true)::(1,true)::(2,true)::(3,true)::(4,true)::(5,true)::(6,true)::(7,true)::(8,true)::(9,true)::(10,true)::(11,true)::(12,true)::(13,true)::(14,true)::(15,true)::(16,true)::(17,true)::(18,true)::(19,true)::(20,true)::(21,true)::K.map fun v=>(v,true):=rfl
@[simp] theorem aj8(K:List Nat):gq 23 K=(0,true)::(1,true)::(2,true)::(3,true)::(4,true)::(5,true)::(6,true)::(7,true)::(8,true)::(9,true)::(10,true)::(11,true)::(12,true)::(13,true)::(14,true)::(15,true)::(16,true)::(17,true)::(18,true)::(19,true)::(20,true)::(21,true)::(22,true)::K.map fun v=>(v,true):=rfl
@[simp] theorem anT{α:Type}{l:List α}{n:Nat}(h:l.length=n):l.take n=l:=aF (by omega)
@[simp] theorem anw(a b:List Pos):D.sl 5 (a.map Pos.cells++b.map Pos.cells)=gb (a++b):=by unfold gb;rw[List.map_append]
def Ey{α:Type}(g:α→D)(Q:α→Prop)(d:D)(H:U):Prop:=Ex g Q d H
theorem Ey.i{α:Type}{g:α→D}{Q:α→Prop}{d:D}{H:U}(x:α)(h1:d=g x)(h2:H = [])(h3:Q x):Ey g Q d H:=⟨x,h1,h2,h3⟩
def IF(ρ:Nat→Option Nat)(H:U)(k off:Nat):Option (TypeId×List D)→D
 | some (_,cs)=>.fh ((cs.drop off).map (eZ ρ H k))
 | none=>.any
@[simp] theorem am1(H:U)(k:Nat)(ρ:Nat→Option Nat)(v g off:Nat):BN H k ρ v g off none=IF ρ H k off (rowAt H v g):=by unfold BN IF;rfl
@[simp] theorem ajm(ρ:Nat→Option Nat)(H:U)(k off:Nat)(t:TypeId)(cs:List D):IF ρ H k off (some (t,cs)) = .fh ((cs.drop off).map (eZ ρ H k)):=rfl
structure GH(H:U)(v:Nat):Prop where
 lt:v<H.length
 ok:pQ H.length H
section
variable{H G:U}{v:Nat}{o o':Ob}
@[simp] theorem GH.get(h:GH H v):(H.set v o)[v]? = some o:=dD h.lt
@[simp] theorem GH.ajz(h:GH H v):(H.set v o++G)[v]? = some o:=by
 rw[ag (by rw[bP];exact h.lt)];exact h.get
@[simp high] theorem GH.cut(h:GH H v){live:List Nat}{env:Env}{r:Bool}(ho:qW H.length o=true)(he:((forget live env).all fun p=>kh H.length p.2)=true) :
  Go.AL.cut H.length live { env:=env,H:=H.set v o++G,marks:=[],fG:=r } = { env:=forget live env,H:=H.set v o,marks:=[],fG:=r }:=S0 (bP ..) (ab7 h.ok ho) he rfl
@[simp] theorem GH.lt_eq(h:GH H v):(v<H.length)=True:=eq_true h.lt
end
@[simp] theorem alP(n:Nat):pQ n []=True:=eq_true fun _ h=>by cases h
@[simp] theorem alO(n:Nat)(o:Ob)(r:U):pQ n (o::r)=(qW n o=true∧pQ n r):=propext ⟨fun h=>⟨h o (by simp),fun x hx=>h x (by simp[hx])⟩,fun h x hx=>by
 rcases aq.1 hx with rfl|hx
 ·exact h.1
 ·exact h.2 x hx⟩
@[simp] theorem alU(n t g:Nat)(cs:List D):qW n (.row t g cs)=cs.all (kh n):=rfl
@[simp] theorem alQ(n:Nat):qW n .dead=true:=rfl
@[simp] theorem alS(n:Nat)(kk:KK)(es:List (Value×D)):qW n (.map kk es)=es.all fun x=>kh n x.2:=rfl
@[simp] theorem agO{n:Nat}{α:Type}{f:α→List D}{sz:Nat}[F:Fl f sz](l:List α):(cl f l).all (kh n)=true:=
 ar.2 fun d hd=>Q2 (kE (p7 l) d hd)
section
variable{H G:U}{v k:Nat}{o:Ob}
theorem Px(h:H[v]? = some o):v<H.length:=by
 rcases bq v H.length with h'|h'
 ·exact h'
 ·rw[aI h']at h;cases h
end
end Go.AL
namespace Go.Proofs.YtnaefnajkaohgaaGreatDoor
open Go Go.AL Classical
set_option maxRecDepth 10000
set_option maxHeartbeats 1000000
theorem Ye{n:Int}{k:Nat}(h0:0≤n)(h1:n≤2*k)(hk:k≤2):fo n<0↔n=0:=by
 unfold fo;split<;>omega
theorem Yf{n s:Int}(h:0≤fo n)(hs:0≤s∧s≤1):iA n=1-s↔¬ iA n=s:=by
 unfold fo at h
 unfold iA
 split at h
 ·rename_i e;rw[if_pos e];omega
 ·omega
theorem J'{n s:Int}(h:¬ 0≤fo n)(hs:0≤s∧s≤1):¬ iA n=1-s∧¬ iA n=s:=by
 unfold fo at h
 unfold iA
 split at h
 ·omega
 ·rename_i e;rw[if_neg e];omega
theorem f228(g:eU)(hg:fr g)(s:e9)(hs:iD g s)(x:eY)(hx:vg g x):Wf T 228 [dG g,.agg s.cells,.agg [.i x.1,.i x.2]] [] (Is (iT (gF g s x))):=by
 have gy:=hs.p.size
 have kQ:=hs.cur
 have jy:=hs.p.small hg
 have ht:=hg.ib.to s.p.side x.2 s.cur
 have ic:=hs.p.cs _ (ff kQ.1 (by omega))
 have gH:=hs.p.side
 have hk:=Ye ic.1 ic.2 hg.kinds.2
 have hr:=hs.p.fq
 have pF:=hg.fq
 have kf:=hx.ok
 refine Yg Dm ?_
 simp[Dm]
 (with_reducible repeat' first|refine Xk ?_<;>try simp|refine Xs ?_ ?_<;>intro h<;>(try intro h')<;>(try simp[h])<;>(try omega)|refine Xg ?_|omega)
 refine Yc (f51 _) ?_
 simp
 (with_reducible repeat' first|refine Xk ?_<;>try simp|refine Xs ?_ ?_<;>intro h<;>(try intro h')<;>(try simp[h])<;>(try omega)|refine Xg ?_|omega)
 ·refine Yc (f251 g hg.ib s.p.side x.2 s.cur) ?_
  simp
  refine Yc (f252 { s with cur:=jB g s.p.side x.2 s.cur } _) ?_
  simp
  simp[gF,h]
 ·refine Yc (f253 g hg s hs x.2) ?_
  simp
  simp[gF,h]
 ·refine Yc (f252 s _) ?_
  simp
  simp[gF,h,hk]
 ·refine Yc (f252 s _) ?_
  simp
  have h1:=Yf (by assumption) gH
  simp[gF, *]
 ·refine Yc (f252 s _) ?_
  simp
  have h1:=J' (by assumption) gH
  simp[gF, *]
 ·refine Yc (f252 s _) ?_
  simp
  simp[gF, *]
 ·refine Yc (f252 s _) ?_
  simp
  have h1:=J' (by assumption) gH
  simp[gF, *]
 ·refine Yc (f254 g hg s hs) ?_
  simp
  simp[gF, *]
 ·refine Yc (f255 g hg s hs x.2) ?_
  simp
  simp[gF, *]
 ·simp[gF, *]
 ·refine Yt (f252 s _) ?_
  simp
  have h2:=yA pF.1 (by omega)
  have h3:=QE (r:=s.p.fq) (n:=x.2) hr.1 (by omega) (by omega) (by omega)
  simp[gF,h3, *]
 ·have h2:=yA pF.1 (by omega)
  have h3:=QF (r:=s.p.fq) (n:=x.2) hr.1 (by omega) (by omega) (by omega)
  simp[gF,h3, *]
def jX(a:List e9):List e9→List e9
 | []=>a
 | x::r=>jX (if x∈a then a else a ++ [x]) r
theorem zr:∀ {b a:List e9} {x:e9},x∈jX a b↔x∈a∨x∈b
 | [],a,x=>by simp[jX]
 | y::r,a,x=>by
  unfold jX
  rw[zr]
  split<;>simp
  ·constructor
   ·rintro(h|h)<;>simp[h]
   ·rintro(h|rfl|h)<;>simp[*]
  ·constructor
   ·rintro((h|h)|h)<;>simp[h]
   ·rintro(h|rfl|h)<;>simp[*]
theorem zp:∀ {b a:List e9},(jX a b).length≤a.length+b.length
 | [],a=>by simp[jX]
 | y::r,a=>by
  unfold jX
  refine Nat.le_trans zp ?_
  split<;>simp<;>omega
theorem adF{H:U}{v:Nat}{o:Ob}(h:H[v]? = some o):H=H.set v o:=by
 refine bM fun i=>?_
 rw[bF]
 split
 ·rename_i e;subst e;rw[if_pos (Px h),h]
 ·rfl
theorem GH.of{H:U}{v:Nat}{o:Ob}(hv:H[v]? = some o)(hH:pQ H.length H):GH H v:=⟨Px hv,hH⟩
theorem f227(v gen:Nat)(a b:List e9)(H:U)(hv:H[v]? = some (.row 282 gen (cl e9.cells a)))(hH:pQ H.length H)(ha:∀ s∈a,Small s.p)(hb:∀ s∈b,Small s.p)(hl:a.length+b.length<2 ^ 39):Wf T 227 [.eT v gen 8 0 a.length,iT b] H (fun d H'=>∃ Fg,d = .eT v Fg 8 0 (jX a b).length∧H'=H.set v (.row 282 Fg (cl e9.cells (jX a b)))):=by
 have hg:=GH.of hv hH
 have oI:=hg.lt
 refine Yg Dk ?_
 simp[Dk]
 refine fe.j ((0,gen,a):Int×Nat×List e9) (fun x=>[(0,.eT v x.2.1 8 0 x.2.2.length),(1,iT b),(5,.i x.1)]) (fun x=>H.set v (.row 282 x.2.1 (cl e9.cells x.2.2))) (fun x=>0≤x.1∧x.1≤b.length∧x.2.2.length≤a.length+x.1.toNat∧(∀ s∈x.2.2,Small s.p)∧jX x.2.2 (b.drop x.1.toNat)=jX a b) (fun x=>b.length-x.1.toNat) ?_ (by simp) (adF hv) rfl ?_
 ·simp;exact ha
 rintro⟨i,gn,l⟩ ⟨h0,h1,h2,h3,h4⟩
 dsimp only at h0 h1 h2 h3 h4 ⊢
 simp
 (with_reducible repeat' first|refine Xk ?_<;>try simp|refine Xs ?_ ?_<;>intro h<;>(try intro h')<;>(try simp[h])<;>(try omega)|refine Xg ?_|omega)
 ·refine fe.j ((0,false):Int×Bool) (fun x=>[(0,.eT v gn 8 0 l.length),(1,iT b),(5,.i i),(6,.b x.2),(7,.i x.1)]) (fun x=>H.set v (.row 282 gn (cl e9.cells l))) (fun x=>0≤x.1∧x.1≤l.length∧x.2=decide (gt b i∈l.take x.1.toNat)) (fun x=>l.length-x.1.toNat) ?_ (by simp) rfl rfl ?_
  ·simp
  rintro⟨k,found⟩ ⟨g0,g1,g2⟩
  dsimp only at g0 g1 g2 ⊢
  simp[hg]
  (with_reducible repeat' first|refine Xk ?_<;>try simp[hg]|refine Xs ?_ ?_<;>intro h<;>(try intro h')<;>(try simp[h,hg])<;>(try omega)|refine Xg ?_|omega)
  ·rw[gE g0 (by assumption)];simp_all
  ·refine Yt (f250 _ _ (h3 _ (ff g0 (by assumption))) (hb _ (ff h0 (by assumption)))) ?_
   simp
   simp only[h,cond_false]
   refine⟨by omega,by omega,k+1,?_⟩
   rw[gE g0 (by assumption)]
   by_cases e:gt l k=gt b i
   ·right;simp[e];omega
   ·left;simp_all
    exact⟨by omega,by omega,by omega,fun e'=>e e'.symm⟩
  ·refine⟨i+1,l,rfl,rfl,rfl,by omega,by omega,by omega,by omega,h3,?_⟩
   rw[← h4,lB h0 (by assumption),jX,show(i+1).toNat=i.toNat+1 by omega]
   rw[if_pos]
   rw[g2,js (by omega)]at h
   simpa using h
  ·refine⟨i+1,l ++ [gt b i],by simp,rfl,by simp,by omega,by omega,by omega,by simp;omega,?_,?_⟩
   ·intro s hs
    simp at hs
    rcases hs with hs|rfl
    ·exact h3 s hs
    ·exact hb _ (ff h0 (by assumption))
   ·rw[← h4,lB h0 (by assumption),jX,show(i+1).toNat=i.toNat+1 by omega]
    rw[if_neg]
    rw[g2,js (by omega)]at h
    simpa using h
 ·rw[aZ (by omega)]at h4
  have e:jX l []=l:=rfl
  rw[e]at h4
  rw[← h4]
  exact⟨rfl,rfl⟩
