/- Part 42 of DisputeWorkers. -/
import Derived.Test.YtmehofoficaelaaGreatDoorW41
set_option linter.all false
namespace Go.Proofs.YtmehofoficaelaaGreatDoor
open Go Go.AL Classical
def outs(n:Nat)(left:List Int):List Int:=(upto n).filter λk => !left.contains k
theorem TT(n:Nat):(upto n).Nodup:=(TU n).imp λh e=>by omega
theorem amP{n:Nat}{gW left:List Int}(h:(gW++left).Perm (upto n)):gW.mergeSort (λx y=>decide (x<=y))=outs n left:=by
 have g:(gW++left).Nodup:=h.nodup_iff.2 (TT n);rw[cO]at g;obtain⟨h1,_,d⟩:=g;have i:=List.mergeSort_perm gW (λx y=>decide (x<=y));have f:(gW.mergeSort (λx y=>decide (x<=y))).Nodup:=i.nodup_iff.2 h1
 have hs:(gW.mergeSort (λx y=>decide (x<=y))).Pairwise λx y=>decide (x<=y)=true:=
  fy (λa b c h1 d=>by simp only[decide_eq_true_eq]at h1 d ⊢;omega) (λa b=>by simp only[bQ,decide_eq_true_eq];omega) gW
 refine E3 ((hs.and f).imp λ⟨h1,d⟩=>by simp only[decide_eq_true_eq]at h1;omega) ((TU n).filter _) λk=>?_;unfold outs;rw[i.mem_iff,aN];have e:=h.mem_iff (a:=k);rw[List.mem_append]at e;simp only[c9,dq,decide_eq_false_iff_not];constructor
 .intro j;exact⟨e.1 (.inl j),λhl=>d k j k hl rfl⟩
 .rintro⟨q1,q2⟩;exact(e.2 q1).resolve_right q2
theorem ano{left ls:List Int}(g:ls.Nodup)(i:∀p∈ls,0<=p/\p<left.length):((ls.reverse.map λk=>gt left k)++mP left ls).Perm left:=by
 have e:(upto left.length).map (λp=>gt left p)=left:=by have:=aaz left;unfold mP at this;rwa [eP.2 (by simp)]at this
 have h1:(ls.reverse++(upto left.length).filter λp => !ls.contains p).Perm (upto left.length):=by
  refine(List.perm_ext_iff_of_nodup ?_ (TT _)).2 λk=>?_
  .rw[cO];refine⟨(List.reverse_perm ls).nodup_iff.2 g,(TT _).filter _,λa c b d e=>?_⟩;rw[List.mem_reverse]at c;rw[aN]at d;rw[e]at c;simp[c]at d
  .rw[List.mem_append,List.mem_reverse,aN,jc];have:=i k
   by_cases h:k∈ls
   .simp[h,this h]
   .simp[h]
 have f:=h1.map (λp=>gt left p);rw[e,List.map_append]at f;exact f
noncomputable def CN(A:mg)(n:Nat)(ad:gK->Bool)(cl:List gK):List Int×Jd:=CO A n ad cl (cl.length+1) (upto cl.length)
structure SI(A:mg)(n:Nat)(ad:gK->Bool)(cl:List gK)(left gW:List Int):Prop where
 pm:(gW++left).Perm (upto cl.length)
 st:∃f,left.length<f/\CO A n ad cl f left=CN A n ad cl
section
variable{A:mg}{n:Nat}{ad:gK->Bool}{cl:List gK}{left gW:List Int}
theorem SI.start:SI A n ad cl (upto cl.length) []:=⟨by simp,_,by rw[pI];omega,rfl⟩
theorem SI.rng(h:SI A n ad cl left gW):∀k∈left,0<=k/\k<cl.length:=λk a=>jc.1 (h.pm.mem_iff.1 (bG _ a))
theorem SI.len(h:SI A n ad cl left gW):gW.length+left.length=cl.length:=by have:=h.pm.length_eq;rwa [ak,pI]at this
theorem SI.step(h:SI A n ad cl left gW){a:Int}{ls:List Int}(i:nh A n ad (left.map λk=>gt cl k) = .v a ls) :
  SI A n ad cl (mP left ls) (gW++ls.reverse.map λk=>gt left k)/\(mP left ls).length<left.length/\(∀p∈ls,0<=p/\p<left.length)/\ls.Pairwise (· < ·)/\ls≠[]:=by
 obtain⟨⟨q,g⟩,d,_⟩:=agO i
 have c:∀p∈ls,0<=p/\p<left.length:=λp b=>by rw[g]at b;have:=agD p b;rwa [List.length_map]at this
 have hs:ls.Pairwise (· < ·):=by rw[g];exact agE
 obtain⟨p,b⟩:=cI _ d;have j:=aay b (c p b).1 (c p b).2;obtain⟨f,l,e⟩:=h.st;refine⟨⟨?_,?_⟩,j,c,hs,d⟩
 .rw[aL];exact((ano (hs.imp λh e=>by omega) c).append_left gW).trans h.pm
 .cases f with
  | zero=>omega
  | succ f=>
   rw[CO,i]at e;exact⟨f,by omega,e⟩
theorem SI.done(h:SI A n ad cl left gW){J:Jd}(c:nh A n ad (left.map λk=>gt cl k)=J)(b:∀a ls,J≠.v a ls):CN A n ad cl=(left,J):=by
 obtain⟨f,d,e⟩:=h.st;rw[<-e]
 cases f with
 | zero=>omega
 | succ f=>
  rw[CO,c]
  cases J with
  | v a ls=>exact absurd rfl (b a ls)
  | none=>rfl
  | A6=>rfl
theorem agP(h:nh A n ad cl = .none){i:Int}(i0:0<=i)(d:i<n):∀r∈sd cl i,lC r=true:=λr f=>by
 unfold nh at h;split at h
 .cases h
 split at h
 .cases h
 split at h
 .cases h
 .rename_i b;obtain⟨c,g,a,rfl⟩:=sK.1 f;have:=dm.1 b i (jc.2 ⟨i0,d⟩);simp only[decide_eq_true_eq,Classical.not_not]at this
  cases e:lC (kI c i)with
  | true=>rfl
  | false=>exact absurd this (yA.2 ⟨c,g,by simp[a,e]⟩)
end
def yV(cl:List gK)(left:List Int)(n:Nat):List fZ:=(upto n).map λi=>nA (sd (left.map λk=>gt cl k) i)
theorem I2(cl:List gK)(left:List Int)(n:Nat):(yV cl left n).length=n:=by unfold yV;rw[List.length_map,pI]
theorem aa0(cl:List gK)(left:List Int){n:Nat}{i:Int}(i0:0<=i)(a:i<n):gt (yV cl left n) i=nA (sd (left.map λk=>gt cl k) i):=by rw[jg i0 (by rw[I2];exact a)];unfold yV;rw[List.getElem_map];congr 2;simp[upto];omega
noncomputable def tu(A:mg)(n:Nat)(ad:gK->Bool)(cl:List gK):Option (List fZ)×List Int:=
 (if (CN A n ad cl).2 = .none/\∀k:Int,0<=k->k<n->kA A (yV cl (CN A n ad cl).1 n) k then some (yV cl (CN A n ad cl).1 n)else none,outs cl.length (CN A n ad cl).1)
def xy:Option (List fZ)×List Int->List D
 | (some v,o)=>[gY v,dN 1 f1 o,.i 0]
 | (none,o)=>[.gg,dN 1 f1 o,.i 180]
theorem acZ{L:List Cw}{left:List Int}(h:∀k∈left,0<=k/\k<L.length):cs (left.map λk=>gt L k)=left.map λk=>gt (cs L) k:=by unfold cs;rw[cz];refine aw λk a=>?_;have:=h k a;exact(QF this.1 this.2).symm
theorem Sr:∀(ms:List Nat) (H:U),ms.Nodup->(∀v∈ms,H[v]? = some .ja)->∃H',kill ms H=some H'/\H'.length=H.length/\∀w:Nat,w ∉ ms->H'[w]? = H[w]?
 | [],H,_,_=>⟨H,rfl,rfl,λ_ _=>rfl⟩
 | v::ms,H,hn,h=>by
  rw[cM]at hn
  obtain⟨H',h1,c,b⟩:=Sr ms (H.set v .dead) hn.2 λw a=>by rw[aB (λe=>hn.1 (by rw[e];exact a))];exact h w (aX _ a)
  refine⟨H',?_,by rw[c,ao],λw a=>?_⟩
  .rw[kill,h v List.mem_cons_self];exact h1
  .rw[av,not_or]at a;rw[b w a.2,aB (cu a.1)]
end Go.Proofs.YtmehofoficaelaaGreatDoor
namespace Go.Proofs.YtmehofoficaelaaGreatDoor
open Go Go.AL Classical
structure CB(g:gi)(l:List Pos)(nx:List (List Int))(L:List Cw)(left:List Int)(old:D)(Hs Hc:U)(y:Nat)(dv:D):Prop where
 ct:Hc[1]? = some (.row 168 0 (ko g l nx dv old))
 dv:(y=0/\dv = .gg)\/(0<y/\∃v gn,Hs.length<=v/\dv = .fY v gn 36 0 y/\Hc[v]? = some (.row 72 gn (cl gR ((left.take y).map λk=>gt L k))))
 kp:∀w o,Hs[w]? = some o->w≠1->Hc[w]? = some o
 ok:jj Hc.length Hc
 le:Hs.length<=Hc.length
section
variable{g:gi}{l:List Pos}{nx:List (List Int)}{L:List Cw}{left:List Int}{old dv:D}{Hs Hc:U}{y:Nat}
theorem OD{n:Nat}{dv old:D}(h1:ju n dv=true)(a:ju n old=true):ni n (.row 168 0 (ko g l nx dv old))=true:=by unfold ko;simp[h1,a]
theorem CB.start{d0:D}(h1:Hs[1]? = some (.row 168 0 (ko g l nx d0 old)))(gf:jj Hs.length Hs):CB g l nx L left old Hs (Hs.set 1 (.row 168 0 (ko g l nx .gg old))) 0 .gg:=by have hl:=jr h1;have b:ju Hs.length old=true:=List.all_eq_true.1 (gf _ (List.mem_of_getElem? h1)) old (by unfold ko;simp);refine⟨aI hl,.inl ⟨rfl,rfl⟩,λw o a c=>by rw[aB (cu c)];exact a,?_,by rw[ao];exact Nat.le_refl _⟩;rw[ao];exact pD gf (OD rfl b)
theorem CB.Z3(h:CB g l nx L left old Hs Hc y dv):ju Hc.length old=true:=List.all_eq_true.1 (h.ok _ (List.mem_of_getElem? h.ct)) old (by unfold ko;simp)
theorem CB.more(h:CB g l nx L left old Hs Hc y dv){o:Ob}(c:ni (Hc.length+1) o=true):CB g l nx L left old Hs (Hc ++ [o]) y dv:=by
 refine⟨iv h.ct,?_,λw o b d=>iv (h.kp w o b d),?_,by rw[ak];have:=h.le;omega⟩
 .rcases h.dv with h1|⟨h1,v,j,i,f,e⟩
  .exact .inl h1
  .exact .inr ⟨h1,v,j,i,f,iv e⟩
 .rw[ak,aY];refine uk (xq (by omega) h.ok) λx a=>?_;rw[List.mem_singleton.1 a];exact c
theorem aa9{y:Nat}(a:y<left.length):(left.take (y+1)).map (λk=>gt L k)=(left.take y).map (λk=>gt L k) ++ [gt L (gt left (y:Int))]:=by rw[dp,List.getElem?_eq_getElem a,List.map_append,jg (l:=left) (by omega) (by omega)];simp
theorem CB.abF(h:CB g l nx L left old Hs Hc 0 .gg)(b:0<left.length) :
  CB g l nx L left old Hs ((Hc.set 1 (.row 168 0 (ko g l nx (.fY Hc.length 0 36 0 1) old))) ++ [.row 72 0 (gR (gt L (gt left 0)))]) 1 (.fY Hc.length 0 36 0 1):=by
 have hl:=jr h.ct;have e:=aa9 (L:=L) b;refine⟨iv (aI hl),.inr ⟨by omega,Hc.length,0,h.le,rfl,?_⟩,λw o d a=>iv (by rw[aB (cu a)];exact h.kp w o d a),?_,by rw[ak,ao];have:=h.le;omega⟩
 .rw[ai (by rw[ao];omega),ao,bS,e];simp[iQ]
 .rw[ak,ao,aY];refine uk (pD (xq (by omega) h.ok) (OD (by simp) (EW (by omega) h.Z3))) λx c=>?_;rw[List.mem_singleton.1 c];exact Ax (Fl.cl _)
theorem CB.abG{v a:Nat}(h:CB g l nx L left old Hs Hc y (.fY v a 36 0 y))(n:1<Hs.length)(i:y<left.length)(j:Hs.length<=v)(m:Hc[v]? = some (.row 72 a (cl gR ((left.take y).map λk=>gt L k)))) :
  CB g l nx L left old Hs ((Hc.set v (.row 72 (a+1) (cl gR ((left.take y).map λk=>gt L k)++gR (gt L (gt left (y:Int)))))).set 1 (.row 168 0 (ko g l nx (.fY v (a+1) 36 0 (y+1)) old))) (y+1) (.fY v (a+1) 36 0 (y+1)):=by
 have hl:=jr h.ct;have b:=jr m;have e:=aa9 (L:=L) i
 have f:cl gR ((left.take y).map λk=>gt L k)++gR (gt L (gt left (y:Int)))=cl gR ((left.take (y+1)).map λk=>gt L k):=by rw[e,<-A3,iQ]
 refine⟨aI (by rw[ao];exact hl),.inr ⟨by omega,v,a+1,j,rfl,?_⟩,λw o c d=>?_,?_,by rw[ao,ao];exact h.le⟩
 .rw[aB (by omega),aI b,f]
 .rw[aB (cu d),aB (by have:=jr c;omega)];exact h.kp w o c d
 .rw[ao,ao];refine pD (pD h.ok ?_) (OD (by simp[b]) h.Z3);rw[f];exact yN _
structure LA(g:gi)(H:U)(left gW:List Int)(ld:D):Prop where
 h0:H[0]? = some (.row 43 0 g.cells)
 nq:H[2]? = some (.row 37 0 [ld])
 vw:(gW = []/\ld = .gg)\/(gW≠[]/\∃v gn,4<v/\ld = .fY v gn 1 0 gW.length/\H[v]? = some (.row 3 gn (cl f1 gW)))
 arr:∃zs,gF zs=true/\H[3]? = some (.row 3 0 (cl f1 left++zs))
 nu:H[4]? = some (.row 37 0 [.fY 3 0 1 0 left.length])
theorem LA.mono{H H':U}{gW:List Int}{ld:D}(h:LA g H left gW ld)(a:∀w o,H[w]? = some o->w≠1->H'[w]? = some o):LA g H' left gW ld:=by
 refine⟨a _ _ h.h0 (by omega),a _ _ h.nq (by omega),?_,?_,a _ _ h.nu (by omega)⟩
 .rcases h.vw with h1|⟨h1,v,f,e,d,c⟩
  .exact .inl h1
  .exact .inr ⟨h1,v,f,e,d,a _ _ c (by omega)⟩
 .obtain⟨zs,b,h1⟩:=h.arr;exact⟨zs,b,a _ _ h1 (by omega)⟩
theorem CB.toLB{gW:List Int}{ld:D}(a:LA g Hs left gW ld)(h:CB g l nx L left old Hs Hc left.length dv):LB g l nx L Hc left gW ld dv:=by
 have h1:=a.mono h.kp;refine⟨h1.h0,⟨_,h.ct⟩,h1.nq,h1.vw,h1.arr,h1.nu,h.ok,?_⟩;rcases h.dv with⟨c,b⟩|⟨c,v,f,b,e,d⟩
 .exact .inr (.inl ⟨by rw[ay.1 c];rfl,b⟩)
 .have hl:=jr a.nu;refine .inr (.inr ⟨v,f,by omega,by rw[e];simp,?_⟩);rw[d,dB]
theorem mj.ahG{H H':U}{ck sr n:Nat}{M:Nat->kh}{ow:Nat->Nat×Nat×Nat}{P:Nat->Nat}{Q:Nat->Nat->Nat}(h:mj H ck sr n M ow P Q)(b:∀v o,H[v]? = some o->ow v≠(5,0,0)->H'[v]? = some o):mj H' ck sr n M ow P Q:=by
 refine⟨h.fc,h.fs,b _ _ h.row (by rw[h.fs];simp),λj c=>?_,λj c t x d=>?_⟩
 .obtain⟨h1,a⟩:=h.mp j c;exact⟨b _ _ h1 (by rw[a];simp),a⟩
 .obtain⟨h1,a⟩:=h.ls j c t x d;exact⟨b _ _ h1 (by rw[a];simp),a⟩
def Jc(cm:List gK)(k:Int)(V:List fZ)(seen:List Nat):List fZ:=if seen = []then V else pt V k (nA (sd cm k))
@[simp] theorem azW(cm:List gK)(k:Int)(V:List fZ):Jc cm k V []=V:=if_pos rfl
theorem abk{cm:List gK}{k:Int}{V:List fZ}{seen:List Nat}(h:seen≠[]):Jc cm k V seen=pt V k (nA (sd cm k)):=if_neg h
theorem LB.ja{H:U}{gW:List Int}{ld:D}(h:LB g l nx L H left gW ld dv){v:Nat}(a:H[v]? = some .ja):4<v/\∀q d n,ld = .fY q d 1 0 n->v≠q:=by
 have key:∀ {w:Nat} {o:Ob},H[w]? = some o->o≠.ja->v≠w:=λf i e=>i (by rw[e,f]at a;exact bZ a);refine⟨?_,λq d n e=>?_⟩
 .have h0:=key h.h0 (by simp);obtain⟨_,h1⟩:=h.ct;have h1:=key h1 (by simp);have c:=key h.nq (by simp);obtain⟨_,_,b⟩:=h.arr;have b:=key b (by simp);have j:=key h.nu (by simp);omega
 .rcases h.vw with⟨_,h1⟩|⟨_,w,k,_,h1,c⟩
  .rw[h1]at e;cases e
  .rw[h1]at e;cases e;exact key c (by simp)
theorem LB.start{dcl:D}(b:dcl = .sl 36 (L.map gR)\/(L = []/\dcl = .gg)):LB g l nx L [.row 43 0 g.cells,.row 168 0 (ko g l nx dcl .gg),.row 37 0 [.gg],.row 3 0 (cl f1 (upto L.length)),.row 37 0 [.fY 3 0 1 0 L.length]] (upto L.length) [] .gg dcl:=by
 have c:ju 5 dcl=true:=by
  rcases b with rfl|⟨rfl,rfl⟩
  .exact AK (wP L)
  .rfl
 have d:(upto L.length).map (λk=>gt L k)=L:=by
  refine br (by simp[pI]) λi h1 e=>?_;rw[List.getElem_map];have:(upto L.length)[i]'(by rw[pI];exact e)=(i:Int):=by simp[upto]
  rw[this,jg (by omega) (by omega)];simp
 refine⟨rfl,⟨_,rfl⟩,rfl,.inl ⟨rfl,rfl⟩,⟨[],rfl,by simp⟩,by rw[pI];rfl,λo a=>?_,?_⟩
 .rcases av.1 a with rfl|a
  .show ni 5 _=true;simp
  .rcases av.1 a with rfl|a
   .exact OD c rfl
   .rcases av.1 a with rfl|a
    .rfl
    .rcases av.1 a with rfl|a
     .exact yN _
     .rw[List.mem_singleton.1 a];show((ju 5 (.fY 3 0 1 0 L.length))&&true)=true;simp
 .rw[d];rcases b with h|h
  .exact .inl h
  .exact .inr (.inl h)
theorem LS.toLA{H0 H:U}{q rv:Nat}{st:qx}{gW:List Int}{ld:D}(h:LS H0 H q rv st left gW ld)(h0:H0[0]? = some (.row 43 0 g.cells))(l:1<q):LA g (H.set rv .dead) left gW ld/\jj (H.set rv .dead).length (H.set rv .dead)/\∀w o,H0[w]? = some o->(4<w\/w<=1)->w≠rv->w≠q->(H.set rv .dead)[w]? = some o:=by
 have k:=h.CD;have key:∀ {w:Nat} {o:Ob},H[w]? = some o->w≠rv->(H.set rv .dead)[w]? = some o:=λf i=>by rw[aB (cu i)];exact f
 refine⟨⟨key (h.kp 0 _ h0 (.inr (by omega)) (by omega) (by omega)) (by omega),key h.nq (by omega),?_,?_,key h.nu (by omega)⟩,?_,λw o h1 c b a=>key (h.kp w o h1 c b a) b⟩
 .rcases h.vw with h1|⟨h1,v,j,⟨c,_⟩,b,a⟩
  .exact .inl h1
  .exact .inr ⟨h1,v,j,c,b,key a λe=>by rw[e,h.rc]at a;cases a⟩
 .obtain⟨zs,d,h1⟩:=h.arr;exact⟨zs,d,key h1 (by omega)⟩
 .rw[ao];exact pD h.ok rfl
end
end Go.Proofs.YtmehofoficaelaaGreatDoor
namespace Go.Proofs.YtmehofoficaelaaGreatDoor
open Go Go.AL Classical
set_option maxRecDepth 10000
set_option maxHeartbeats 16000000
attribute [-simp] uL
theorem aoE{n k:Nat}(h:k<n):(upto k++List.replicate (n-k) 0).set k (k:Int)=upto (k+1)++List.replicate (n-(k+1)) 0:=by rw[Jb,dy _ _ (by rw[pI];omega),pI,bS,show n-k=(n-(k+1))+1 by omega,bp];simp
theorem aaY{H:U}{gW left:List Int}{N:Nat}{ld:D}(b:(gW = []/\ld = .gg)\/(gW≠[]/\∃v a,4<v/\ld = .fY v a 1 0 gW.length/\H[v]? = some (.row 3 a (cl f1 gW))))(f:(gW++left).Perm (upto N))(hN:N<=100000)(gf:jj H.length H) :
  Wf T 67 [ld] H (λd H'=>d = .tup []/\((outs N left = []/\ld = .gg)\/(outs N left≠[]/\∃v a,4<v/\ld = .fY v a 1 0 (outs N left).length/\H'[v]? = some (.row 3 a (cl f1 (outs N left)))))/\H'.length=H.length /\
   (∀w o,H[w]? = some o->(∀a n,ld≠.fY w a 1 0 n)->H'[w]? = some o)/\jj H'.length H'):=by
 have hs:=amP f;have hl:=congrArg List.length hs;rw[eC]at hl;rcases b with⟨rfl,rfl⟩|⟨h0,v,a,j,rfl,c⟩
 .refine Wf.mono Wr ?_;rintro _ H' ⟨rfl,rfl⟩;exact⟨rfl,.inl ⟨ay.1 (by rw[<-hl];rfl),rfl⟩,rfl,λw o h _=>h,gf⟩
 .have g:gW.length<=N:=by have:=f.length_eq;rw[ak,pI]at this;omega
  refine f160 (l:=gW) (t:=3) (ax.2 h0) (by omega) c ?_;rw[hs,hl];refine⟨rfl,.inr ⟨λe=>h0 (ay.1 (by rw[hl,e];rfl)),v,a,j,rfl,aI (jr c)⟩,ao,λw o h1 i=>?_,?_⟩
  .rw[aB (λe=>i a (outs N left).length (by rw[e]))];exact h1
  .rw[ao];exact pD gf (yN _)
theorem adD(g:gi)(hg:gV g)(l:List Pos)(hc:pa g l)(h0:0<l.length)(h9:l.length<=1000){L:List Cw}{dcl:D}(hd:dcl = .sl 36 (L.map gR)\/(L = []/\dcl = .gg))
  (hL:∀x∈L,x.ok) (hb:∀x∈L,∀r∈x.c.es,r.2<=4000) (h8:L.length<=100000) :
  Wf T 20 [dG g,gZ l,dcl] [] (Is (.tup (xy (tu (jT g l (gC g l)) l.length (jn l.length) (cs L))))):=by
 have cn:=f52 g hg l hc h0
 have X:closed dcl=true:=by
  rcases hd with rfl|⟨rfl,rfl⟩
  .exact wP L
  .rfl
 have oS:cellsOf dcl=some [dcl]:=by
  rcases hd with rfl|⟨rfl,rfl⟩
  .rfl
  .rfl
 have uQ:∀H,mX .slice dcl H=some (.i L.length):=λH=>by
  rcases hd with rfl|⟨rfl,rfl⟩
  .simp
  .rfl
 have hj:=λ(H:U) (dv:D) (L':List Cw) (old:D) (hd:CV H 1 L' dv) (gf:jj H.length H) l9 hL hb h8=>adU g hg l hc h0 h9 (H:=H) (ck:=1) (L:=L') (old:=old) (dcl:=dv) hd gf l9 hL hb h8;have cr:=aeR g hg l hc h0;obtain⟨nx,pX⟩:∃nx,gC g l=nx:=⟨_,rfl⟩;rw[pX]at cn hj cr ⊢;refine Yg Jp ?_;simp[Jp,X];refine gx.inl Fi rfl rfl (by simp[Fi]) rfl ?_;simp[Fi,X];refine Yc (cn) ?_;simp[X,oS];(with_reducible repeat' first|refine Xk ?_<;>try simp[X,uQ]|refine Xs ?_ ?_<;>intro h<;>(try intro M)<;>(try simp[h,X,uQ])<;>try omega|refine Xg ?_|omega);simp[X,uQ];(with_reducible repeat' first|refine Xk ?_<;>try simp[X,uQ]|refine Xs ?_ ?_<;>intro h<;>(try intro M)<;>(try simp[h,X,uQ])<;>try omega|refine Xg ?_|omega);refine gj.s (by simp[X];rfl) ?_;refine gj.e (0:Int) (λy=>[(1,gZ l),(2,dcl),(3,.ptr 0 0 0),(9,.ptr 1 0 0),(11,.ptr 2 0 0),(12,.ptr 4 0 0),(40,.i L.length),(41,.i y)]) (λy=>[.row 43 0 g.cells,.row 168 0 (ko g l nx dcl .gg),.row 37 0 [.gg],.row 3 0 (cl f1 (upto y.toNat++List.replicate (L.length-y.toNat) 0)),.row 37 0 [.fY 3 0 1 0 L.length]]) (λy=>0<=y/\y<=L.length) (λy=>(L.length-y).toNat) ?_ ?_
 .simp
 rintro y ⟨y0,y1⟩;dsimp only at y0 y1 ⊢
 by_cases Y:y<L.length
 .simp[Y];(with_reducible repeat' first|refine Xk ?_<;>try simp[Y]|refine Xs ?_ ?_<;>intro h<;>(try intro M)<;>(try simp[h,Y])<;>try omega|refine Xg ?_|omega);obtain⟨k,rfl⟩:∃k:Nat,y=k:=⟨y.toNat,by omega⟩;have C:k<L.length:=by omega
  refine⟨by rw[pI];simp;omega,by omega,by omega,LJ.i ((k:Int)+1) rfl ?_ rfl rfl mI⟩
  have hp:pt (upto k++List.replicate (L.length-k) 0) (k:Int) (k:Int)=upto (k+1)++List.replicate (L.length-(k+1)) 0:=by have e:=aoE C;rw[bY,if_pos (by simp[pI];omega)]at e;exact e
  simp only[bt,show((k:Int)+1).toNat=k+1 by omega,hp]
 have yx:y=L.length:=by omega
 subst yx;simp;(with_reducible repeat' first|refine Xk ?_<;>try simp|refine Xs ?_ ?_<;>intro h<;>(try intro M)<;>(try simp[h])<;>try omega|refine Xg ?_|omega);rw[bS,eM,az];have QX:=LB.start (g:=g) (l:=l) (nx:=nx) hd;obtain⟨Hi,QV⟩:∃Hi,[Ob.row 43 0 g.cells,.row 168 0 (ko g l nx dcl .gg),.row 37 0 [.gg],.row 3 0 (cl f1 (upto L.length)),.row 37 0 [.fY 3 0 1 0 L.length]]=Hi:=⟨_,rfl⟩;rw[QV]at QX;have QY:∀k:Int,0<=k->k<L.length->(gt L k).ok/\∀r∈(gt L k).c.es,r.2<=4000:=λk k0 k1=>⟨hL _ (gy k0 k1),hb _ (gy k0 k1)⟩;refine gj.m ((Hi,[],upto L.length,[],.gg,dcl):U×List Nat×List Int×List Int×D×D) (λ_=>[(1,gZ l),(2,dcl),(3,.ptr 0 0 0),(9,.ptr 1 0 0),(11,.ptr 2 0 0),(12,.ptr 4 0 0)]) (λx=>x.1) (λx=>x.2.1) (λx=>LB g l nx L x.1 x.2.2.1 x.2.2.2.1 x.2.2.2.2.1 x.2.2.2.2.2/\(∀v∈x.2.1,x.1[v]? = some .ja)/\x.2.1.Nodup/\SI (jT g l nx) l.length (jn l.length) (cs L) x.2.2.1 x.2.2.2.1) (λx=>x.2.2.1.length) ?_ ?_ rfl QV rfl rfl rfl
 rotate_left
 .exact⟨QX,λv b=>(by cases b),.nil,by rw[<-wR L];exact SI.start⟩
 clear QX QV y0 y1 Y;rintro⟨Hc,ms,left,gW,ld,dv⟩ ⟨hB,RF,z',hS⟩;dsimp only at hB RF z' hS ⊢;obtain⟨old,lI⟩:=hB.ct;have hr:=hS.rng;have g0:=hS.len;rw[wR]at g0;simp only[wR]at hr
 have Xf:∀x∈left.map (λk=>gt L k),x.ok:=λx I=>by obtain⟨k,C,rfl⟩:=ar.1 I;exact(QY k (hr k C).1 (hr k C).2).1
 have Xe:∀x∈left.map (λk=>gt L k),∀r∈x.c.es,r.2<=4000:=λx I=>by obtain⟨k,C,rfl⟩:=ar.1 I;exact(QY k (hr k C).1 (hr k C).2).2
 have zT:=acZ hr;have nf:=hj Hc dv (left.map λk=>gt L k) old hB.cv hB.ok lI Xf Xe (by rw[List.length_map];omega);rw[zT]at nf;obtain⟨J,hJ⟩:∃J,nh (jT g l nx) l.length (jn l.length) (left.map λk=>gt (cs L) k)=J:=⟨_,rfl⟩;rw[hJ]at nf;simp;refine gx.kH rfl rfl nf ?_;rintro d H' hP;have E:=hB.agR hP
 have D4:∀v∈ms,H'[v]? = some .ja:=λv b=>hP.kp v _ (RF v b) λe=>by have:=RF v b;rw[e,lI]at this;cases this
 cases J with
 | v a ls=>
  obtain⟨x,rfl,I⟩:=hP.vd;obtain⟨Q4,gG,NR,sG,ie⟩:=hS.step hJ
  have Sg:cellsOf x=some [x]:=by
   rcases I with rfl|⟨_,v,s,rfl,_⟩
   .cases ls with
    | nil=>rfl
    | cons a r=>rfl
   .rfl
  simp;refine gx.w (by simp;rfl) ?_;refine gx.kH rfl rfl (adV Sg _) ?_;rintro _ H2 ⟨rfl,rfl⟩;simp;refine sT.s (by simp;rfl) ?_;refine sT.r (f:=124) (first:=[]) (cap:=[.ptr (H'.length+1) 0 0]) rfl (by simp) rfl rfl ?_;have e1:(H' ++ [Ob.row 89 0 [.i a,x],Ob.row 37 0 [x]]).length+1=H'.length+3:=by simp
  have DN:=jr E.nu
  have Ep:ju (H'.length+4) x=true:=by
   rcases I with rfl|⟨_,v,s,rfl,b,_⟩
   .exact AK (by simp)
   .have:=jr b;simp;omega
  obtain⟨q,hq,Eg,Xd⟩:=E.toLS (R:=[.row 89 0 [.i a,x],.row 37 0 [x],.ja,.ib 1280 eS .ready]) (j:=3) rfl (λo S=>by
   rcases av.1 S with rfl|S
   .show((ju (H'.length+4) (.i a))&&((ju (H'.length+4) x)&&true))=true;rw[Ep];rfl
   .rcases av.1 S with rfl|S
    .show((ju (H'.length+4) x)&&true)=true;rw[Ep];rfl
    .rcases av.1 S with rfl|S
     .rfl
     .rw[List.mem_singleton.1 S];show((ju (H'.length+4) (.ptr 2 0 0))&&((ju (H'.length+4) (.ptr 4 0 0))&&true))=true;simp
      omega)
  have n6:q<Hc.length/\1<q:=by
   rcases hq with rfl|⟨s,hq,_⟩
   .exact⟨jr hB.nq,by omega⟩
   .rcases hB.vw with⟨_,h⟩|⟨_,v,GC,_,h,b⟩
    .rw[h]at hq;cases hq
    .rw[h]at hq;cases hq;exact⟨jr b,by omega⟩
  have hHc:=jr hB.nu
  have auz:ls.length<=left.length:=by have:=Av left.length ls (sG.imp λh e=>by omega) NR;exact this
  show Wf T 124 [.iT ((H' ++ [Ob.row 89 0 [.i a,x],Ob.row 37 0 [x]]).length+1),.ptr (H'.length+1) 0 0] ((H' ++ [Ob.row 89 0 [.i a,x],Ob.row 37 0 [x]]) ++ [.ja,.ib 1280 eS .ready]) _;rw[e1,aL];refine Wf.mono (aec (n:=H'.length+1) (x:=x) Xd NR sG (by omega) (by omega) (by omega) (by simp) mI ?_) ?_
  .rcases I with h|⟨_,v,s,h,b,hN⟩
   .exact .inl h
   .have:=jr b;exact .inr ⟨v,s,h,iv b,by omega,by omega,by omega⟩
  rintro _ H3 ⟨ua,QZ,g1⟩;obtain⟨DT,Hr,NP⟩:=QZ.toLA (iv E.h0) n6.2
  have RG:∀v∈(H'.length+2)::ms,(H3.set (H'.length+3) .dead)[v]? = some .ja:=λv b=>by
   rcases av.1 b with rfl|b
   .exact NP _ _ (by simp) (by omega) (by omega) (by omega)
   .have h1:=D4 v b;have h2:=jr h1;obtain⟨K,h4⟩:=E.ja h1;refine NP _ _ (iv h1) (.inl K) (by omega) ?_;rcases hq with e|⟨s,e,_⟩
    .omega
    .exact h4 _ _ _ e
  obtain⟨Z2,p3⟩:=E.ct;have NG:=NP 1 _ (iv p3) (by omega) (by omega) (by omega);refine⟨eS,.ready,by rw[e1];exact QZ.rc,?_⟩;have Aa:((H'.length+2)::ms).Nodup:=cM.2 ⟨λh=>by have:=jr (D4 _ h);omega,z'⟩;obtain⟨Hs,QW⟩:∃Hs,H3.set (H'.length+3) .dead=Hs:=⟨_,rfl⟩;rw[QW]at DT Hr RG NG;have oR:=NG;unfold ko at oR;simp at oR;show oA (AA (St.mk _ (H3.set ((H' ++ [Ob.row 89 0 [.i a,x],Ob.row 37 0 [x]]).length+1) .dead) _ _) .ready) _ .mk;rw[e1,QW];clear QW NP g1 QZ Xd;obtain⟨B,mq⟩:∃B,mP left ls=B:=⟨_,rfl⟩;obtain⟨Sw,zX⟩:∃Sw,(gW++ls.reverse.map λk=>gt left k)=Sw:=⟨_,rfl⟩;rw[mq,zX]at DT Q4;rw[mq]at gG;have Xc:=DT.nu;have DL:∀d sd,(Ob.row 168 0 [.i g.size,.sl 1 (g.next.map fI),dI g.jy,.sl 3 (g.kinds.map Kind.cells),.i g.gL,.b g.oK,dN 4 Clause.cells g.clauses,.i g.blocked,.i g.vo,gZ l,.sl 1 (nx.map fN),d,sd]) = .row 168 0 (ko g l nx d sd):=λd sd=>by unfold ko;simp
  have o1:=CB.start (L:=L) (left:=B) NG Hr;simp[oR,Xc];refine gj.s (by simp[oR];rfl) ?_;rw[DL];refine gj.kg ((H'.length+2)::ms) false ((Hs.set 1 (.row 168 0 (ko g l nx .gg Z2)),0,.gg):U×Nat×D) (λy=>[(1,gZ l),(2,dcl),(3,.ptr 0 0 0),(9,.ptr 1 0 0),(11,.ptr 2 0 0),(12,.ptr 4 0 0),(76,.fY 3 0 1 0 B.length),(77,.i B.length),(78,.i y.2.1)]) (λy=>y.1) (λy=>y.2.1<=B.length/\CB g l nx L B Z2 Hs y.1 y.2.1 y.2.2) (λy=>B.length-y.2.1) ?_ (by simp) (by first|rfl|(simp[iQ];done)|(simp[*];done)) rfl rfl rfl ?_
  .exact⟨by simp,o1⟩
  rintro⟨G,y,dg⟩ ⟨Y,hG⟩;dsimp only at Y hG ⊢
  by_cases W:y<B.length
  .obtain⟨zs,hz,lx⟩:=DT.arr;have K:=hG.kp 3 _ lx (by omega);obtain⟨k,C⟩:∃k,gt B (y:Int)=k:=⟨_,rfl⟩
   have DY:(cl f1 B++zs)[y]? = some (.i k):=by rw[ah (by rw[qJ];omega),zt,au,List.getElem?_eq_getElem W,<-C,Bp W];rfl
   have G6:=Q4.rng k (by rw[<-C];exact gy (by omega) (by omega));rw[wR]at G6;obtain⟨pp,sF,nE⟩:=CV.ix (H:=[]) (ck:=0) (hd.elim .inl λh=>.inr (.inl h)) G6.1 G6.2;have nE:=λH'=>nE H' λv o b=>by simp at b
   have I:=(QY k G6.1 G6.2).1;have jQ:(gR (gt L k)).length=36:=Fl.len _;have mE:(gR (gt L k)).take 36=gR (gt L k):=af (by omega);have vH:gF (gR (gt L k))=true:=Fl.cl _;have O:=hG.ct;unfold ko at O;simp at O;have tN:∀R:U,(G++R)[1]? = _:=λR=>iv O;have DZ:∀(R:U) (h:1<(G++R).length),(G++R)[1]'h=_:=λR h=>bZ ((List.getElem?_eq_getElem h).symm.trans (tN R));have D1:=jr O;have nW:∀(R:U) (o:Ob),(G++R).set 1 o=G.set 1 o++R:=λR o=>aM _ _ D1;have g1:=hG.le;have lz:=jr DT.nu;rcases hG.dv with⟨rfl,rfl⟩|⟨hy0,v,s,b,rfl,Ei⟩
   .simp[W,K,DY,sF,nE,tN,DZ,O,nW,jQ,mE];(with_reducible repeat' first|refine Xk ?_<;>try simp[W,K,DY,sF,nE,tN,DZ,O,nW,jQ,mE]|refine Xs ?_ ?_<;>intro h<;>(try intro M)<;>(try simp[h,W,K,DY,sF,nE,tN,DZ,O,nW,jQ,mE])<;>try omega|refine Xg ?_|omega);have hF:=(hG.more (o:=.row 72 0 (gR (gt L k))) (Ax vH)).abF W;rw[nW,aL,ak,aY,show gt B 0=k from C]at hF;rw[DL];exact LJ.i (_,1,.fY (G.length+1) 0 36 0 1) (by simp) rfl rfl rfl (p9 hF)
   .have iH:=jr Ei;have oG:v≠1:=by omega
    have uW:∀R:U,(G++R)[v]? = _:=λR=>iv Ei;have B4:∀(R:U) (o:Ob),(G++R).set v o=G.set v o++R:=λR o=>aM _ _ iH;have gS:∀(o:Ob) (R:U),(G.set v o++R)[1]? = _:=λo R=>iv ((aB oG).trans O);have gB:∀(o:Ob) (R:U) (h:1<(G.set v o++R).length),(G.set v o++R)[1]'h=_:=λo R h=>bZ ((List.getElem?_eq_getElem h).symm.trans (gS o R));have sS:∀(o o':Ob) (R:U),(G.set v o++R).set 1 o'=(G.set v o).set 1 o'++R:=λo o' R=>aM _ _ (by rw[ao];exact D1);have gI:(cl gR ((B.take y).map λk=>gt L k)).length=y*36:=by rw[qJ,List.length_map,aK];congr 1;omega
    have lI:(cl gR ((B.take y).map λk=>gt L k)).take (y*36)=cl gR ((B.take y).map λk=>gt L k):=af (by omega);have hyL:y<=100000:=by omega
    simp[W,K,DY,sF,nE,tN,DZ,O,nW,jQ,mE,uW,B4,gS,gB,sS,gI,lI];(with_reducible repeat' first|refine Xk ?_<;>try simp[W,K,DY,sF,nE,tN,DZ,O,nW,jQ,mE,uW,B4,gS,gB,sS,gI,lI]|refine Xs ?_ ?_<;>intro h<;>(try intro M)<;>(try simp[h,W,K,DY,sF,nE,tN,DZ,O,nW,jQ,mE,uW,B4,gS,gB,sS,gI,lI])<;>try omega|refine Xg ?_|omega);have hF:=(hG.abG (by omega) W b Ei).more (o:=.row 72 0 (gR (gt L k))) (Ax vH);rw[C]at hF;rw[DL,<-List.map_take,lI];exact LJ.i (_,y+1,.fY v (s+1) 36 0 (y+1)) (by simp) rfl rfl rfl (p9 hF)
  .have yx:y=B.length:=by omega
   subst yx;simp
   exact LM.i (G,(H'.length+2)::ms,B,Sw,ua,dg) rfl rfl rfl rfl ⟨gG,hG.toLB DT,λv b=>hG.kp v _ (RG v b) (λe=>by
    have:=RG v b;rw[e,NG]at this
    cases this),Aa,Q4⟩
 | none=>
  have b:d=_:=hP.vd;subst b;have hE:=hS.done hJ λa ls h=>by cases h
  have DN:=jr E.nu;have F:∀R:U,(H'++R)[2]? = some (.row 37 0 [ld]):=λR=>iv E.nq;have RK:jj (H' ++ [Ob.row 89 0 [.i 0,.gg]]).length (H' ++ [Ob.row 89 0 [.i 0,.gg]]):=Ir E.ok rfl λo S=>by rw[List.mem_singleton.1 S];rfl
  have Se:(gW = []/\ld = .gg)\/(gW≠[]/\∃v s,4<v/\ld = .fY v s 1 0 gW.length/\(H' ++ [Ob.row 89 0 [.i 0,.gg]])[v]? = some (.row 3 s (cl f1 gW))):=by
   rcases E.vw with h|⟨h1,v,s,h2,K,h4⟩
   .exact .inl h
   .exact .inr ⟨h1,v,s,h2,K,iv h4⟩
  have HG:=aaY Se (N:=L.length) (left:=left) (by have:=hS.pm;rwa [wR]at this) h8 RK;simp[F];(with_reducible repeat' first|refine Xk ?_<;>try simp[F]|refine Xs ?_ ?_<;>intro h<;>(try intro M)<;>(try simp[h,F])<;>try omega|refine Xg ?_|omega);refine gx.w (by simp;rfl) ?_;refine gx.kH rfl rfl HG ?_;rintro _ A ⟨rfl,Em,XR,zY,p4⟩;have Aa:∀v∈ms,A[v]? = some .ja:=λv b=>zY v _ (iv (D4 v b)) λs n e=>(E.ja (D4 v b)).2 _ _ _ e rfl
  have z7:A[2]? = some (.row 37 0 [ld]):=by
   refine zY 2 _ (F _) λs n e=>?_;rcases Em with⟨_,h⟩|⟨_,v,GC,h1,h,_⟩
   .rw[h]at e;cases e
   .rw[h]at e;cases e;omega
  obtain⟨sr,Xz,te⟩:=hP.ct;obtain⟨ow,P,Q,te,g'⟩:=te rfl
  have X4:∀w:Nat,w<5->∀s n,ld≠.fY w s 1 0 n:=λw hw s n e=>by
   rcases Em with⟨_,h⟩|⟨_,v,GC,h1,h,_⟩
   .rw[h]at e;cases e
   .rw[h]at e;cases e;omega
  have p2:=zY 1 _ (iv Xz) (X4 1 (by omega));have o6:=zY 0 _ (iv E.h0) (X4 0 (by omega))
  have RW:=(te.app [Ob.row 89 0 [.i 0,.gg]]).ahG (H':=A) λv o b h5=>zY v o b λs n e=>by
   rcases hB.vw with⟨_,h⟩|⟨_,w,GC,h1,h,h2⟩
   .rw[h]at e;cases e
   .rw[h]at e;cases e;exact h5 (g' _ _ h2 (by omega))
  clear te g' Xz;obtain⟨cm,Rk⟩:∃cm,(left.map λk=>gt (cs L) k)=cm:=⟨_,rfl⟩;rw[Rk]at hJ RW;have QK:=YK hJ;have o2:=@agP _ _ _ _ hJ
  have Ht:∀j:Int,0<=j->j<l.length->(gM cm j).length=1:=λj j0 j1=>by
   obtain⟨q1,q2⟩:=QK.2 j j0 j1;have:=GF (cl:=cm) (i:=j);rw[q2]at this;have K:¬ 1<(gM cm j).length:=λh=>by cases this.1 h
   have h4:(gM cm j).length≠0:=λh=>q1 (Nr.1 h);omega
  have oR:=p2;unfold ko at oR;simp at oR;have oj:∀R:U,(A++R)[1]? = _:=λR=>iv oR;have Rh:∀(R:U) (h:1<(A++R).length),(A++R)[1]'h=_:=λR h=>bZ ((List.getElem?_eq_getElem h).symm.trans (oj R));simp[z7,oj,Rh];(with_reducible repeat' first|refine Xk ?_<;>try simp[z7,oj,Rh]|refine Xs ?_ ?_<;>intro h<;>(try intro M)<;>(try simp[h,z7,oj,Rh])<;>try omega|refine Xg ?_|omega);refine gj.kg ms false ((0,List.replicate l.length (0,0),[]):Int×List fZ×U) (λy=>[(1,gZ l),(3,.ptr 0 0 0),(11,.ptr 2 0 0),(20,.fY A.length 0 2 0 l.length),(108,.fY sr 0 1 0 l.length),(109,.i l.length),(110,.i y.1)]) (λy=>A++(.row 86 0 (AL.cl fS y.2.1)::y.2.2)) (λy=>(0<=y.1/\y.1<=l.length)/\y.2.1.length=l.length/\∀j:Int,0<=j->j<y.1->gt y.2.1 j=nA (sd cm j)) (λy=>(l.length-y.1).toNat) ?_ (by simp) (by first|rfl|(simp[iQ];done)|(simp[*];done)) rfl rfl rfl ?_
  .exact⟨by simp,by simp,λj j0 j1=>absurd j1 (by dsimp only;omega)⟩
  rintro⟨k,V,R⟩ ⟨⟨k0,k1⟩,hV,zQ⟩;dsimp only at k0 k1 hV zQ ⊢;have py:∀R:U,(A++R)[sr]? = some (.row 170 0 ((List.range l.length).map λj=>D.gD (P j))):=λR=>iv RW.row
  by_cases C:k<l.length
  .obtain⟨p1,_⟩:=RW.mp k.toNat (by omega);rw[show((k.toNat:Nat):Int)=k by omega]at p1;obtain⟨p,kZ⟩:∃p,P k.toNat=p:=⟨_,rfl⟩;obtain⟨q,yw⟩:∃q,Q k.toNat=q:=⟨_,rfl⟩;rw[kZ,yw]at p1;have oV:∀R:U,(A++R)[p]? = some (.map KS (iV q 0 (gM cm k))):=λR=>iv p1;have h1:=Ht k k0 C;simp[C,py,kZ,oV,k0];(with_reducible repeat' first|refine Xk ?_<;>try simp[C,py,kZ,oV,k0]|refine Xs ?_ ?_<;>intro h<;>(try intro M)<;>(try simp[h,C,py,kZ,oV,k0])<;>try omega|refine Xg ?_|omega);refine gj.kg ms false (([],[]):List Nat×U) (λz=>[(1,gZ l),(3,.ptr 0 0 0),(11,.ptr 2 0 0),(20,.fY A.length 0 2 0 l.length),(21,.i k),(108,.fY sr 0 1 0 l.length),(109,.i l.length),(110,.i k),(116,.ptr (A.length+(R.length+1)) 0 0)]) (λz=>A++(.row 86 0 (AL.cl fS (Jc cm k V z.1))::(R ++ .jl (.gD p) (gM cm k).length z.1::z.2))) (λz=>z.1.Nodup/\∀t∈z.1,t<(gM cm k).length) (λz=>(gM cm k).length-z.1.length) ?_ (by simp) (by first|rfl|(simp[iQ];done)|(simp[*];done)) rfl rfl rfl ?_
   .exact⟨.nil,λ_ h=>(by cases h)⟩
   rintro⟨seen,Z⟩ ⟨lS,gG⟩;dsimp only at lS gG ⊢;simp;refine uE.at (m:=p) (since:=(gM cm k).length) (seen:=seen) (kk:=KS) (es:=iV q 0 (gM cm k)) (by simp) (by simp[oV]) (by simp) (λjo=>?_) λt kv dv he hi=>?_
   .have jo:∀t,t<(gM cm k).length->t∈seen:=by simpa using jo
    have nH:seen≠[]:=λe=>by have:=jo 0 (by omega);rw[e]at this;cases this
    rw[abk nH];simp;refine gd ?_;refine LJ.i (k+1,pt V k (nA (sd cm k)),R ++ .jl (.gD p) (gM cm k).length seen::Z) (by simp) (by simp) rfl rfl ?_;refine⟨by dsimp only;omega,iy,by rw[iP k0 (by omega)];exact hV,λi' h0 h1=>?_⟩;dsimp only at h1 ⊢;rw[pR k0 (by omega) h0]
    by_cases e:i'=k
    .rw[if_pos e,e]
    .rw[if_neg e];exact zQ i' h0 (by omega)
   .rw[vq]at he;obtain⟨y,tW,HM⟩:=aj.1 he;cases HM;have pB:=IN lS gG (ae.1 tW).1 hi;have jB:(iV q 0 (gM cm k))[t]? = some (lA y.1,oI (q t) y.2):=by rw[vq,tW];simp
    have e:(A++(Ob.row 86 0 (AL.cl fS (Jc cm k V seen))::(R++Ob.jl (.gD p) (gM cm k).length seen::Z))).set (A.length+(R.length+1)) (.jl (.gD p) (gM cm k).length (seen ++ [t]))=A++(Ob.row 86 0 (AL.cl fS (Jc cm k V seen))::(R++Ob.jl (.gD p) (gM cm k).length (seen ++ [t])::Z)):=by simp
    rw[e]
    have uS:(gM cm k).length-(seen ++ [t]).length<(gM cm k).length-seen.length:=by have:=pB.2.2;rw[ak,aY]at this ⊢;omega
    have R2:t=0:=by have:=(ae.1 tW).1;omega
    have tc:seen = []:=aT.2 λu hu=>by have:=gG u hu;rw[show u=t by omega]at hu;exact hi hu
    have Y:y.1=nA (sd cm k):=W2 (by
     obtain⟨z,hz⟩:=fG.1 h1;rw[hz,R2]at tW;cases tW
     exact hz)
    subst tc;obtain⟨⟨r1,r2⟩,ls⟩:=y;dsimp only at Y jB;have B0:=F9 (l:=V) (n:=k) r1 r2;simp[oV,jB,h1,B0];(with_reducible repeat' first|refine Xk ?_<;>try simp[oV,jB,h1,B0]|refine Xs ?_ ?_<;>intro h<;>(try intro M)<;>(try simp[h,oV,jB,h1,B0])<;>try omega|refine Xg ?_|omega);refine LJ.i ([] ++ [t],Z ++ [.row 86 0 [.i r1,.i r2]]) (by simp) (by rw[abk (by simp),<-Y];simp[h1]) rfl rfl ⟨uS,pB.1,pB.2.1⟩
  .have vK:k=l.length:=by omega
   subst vK;have Xx:cm=cs (left.map λk=>gt L k):=by rw[<-Rk,zT]
   have Q0:∀x∈left.map (λk=>gt L k),x.full:=λx I=>⟨Xf x I,λ_=>by
    have:=QK.1 x.c (by rw[Xx];exact ar.2 ⟨x,I,rfl⟩);unfold jn at this;rw[Bool.and_eq_true]at this
    exact(IY this.1).2.2⟩
   have zR:V=yV (cs L) left l.length:=QG (by rw[I2];exact hV) λj j0 j1=>by rw[zQ j j0 (by omega),aa0 _ _ j0 (by omega),Rk]
   have GV:∀j:Int,0<=j->j<V.length->0<=(gt V j).2/\(gt V j).2<=4000:=λj j0 j1=>by
    rw[hV]at j1;rw[zQ j j0 j1];have hm:=DF (QK.2 j j0 j1).1;have h5:=o2 j0 j1 _ hm;refine⟨?_,?_⟩
    .unfold lC at h5;simp only[decide_eq_true_eq]at h5;rcases h5 with e|e
     .rw[e];decide
     .exact e.2
    .obtain⟨c,hc,h6,h7⟩:=sK.1 hm;rw[<-h7];rw[Xx]at hc;obtain⟨x,I,rfl⟩:=ar.1 hc;obtain⟨_,i0,i1⟩:=Cw.WT (Q0 x I) h6;exact Xe x I _ (gy (by omega) i1)
   have Vy:=cr V hV GV;rw[zR]at Vy;have o4:∀R:U,(A++R)[0]? = some (.row 43 0 g.cells):=λR=>iv o6;simp[o4];refine gx.rq rfl rfl Vy (by simp[<-zR,hV]) (λ_=>by simp[flat,tF]) (λ_=>by simp) ?_;rintro n hn;have F:∀R:U,(A++R)[2]? = some (.row 37 0 [ld]):=λR=>iv z7;obtain⟨Hk,k1,k2,k3⟩:=Sr ms (A++Ob.row 86 0 (AL.cl fS V)::R) z' λv b=>iv (Aa v b)
   have sB:∀d,leave 0 0 Hk d=(gq (λ_=>none) Hk 40 d,[]):=λd=>Sv λe=>by rw[e,ak]at k2;simp at k2
   have n8:Hk[A.length]? = some (.row 86 0 (AL.cl fS V)):=by rw[k3 _ λh=>by have:=jr (Aa _ h);omega];simp
   have XU:gq (λ_=>none) Hk 39 ld=dN 1 f1 (outs L.length left):=by
    rcases Em with⟨e,rfl⟩|⟨h1,v,s,_,rfl,b⟩
    .rw[e];rfl
    .have Sa:=(k3 v λh=>by rw[Aa v h]at b;cases b).trans (iv b);simp[Sa]
     cases hz:outs L.length left with
     | nil=>exact absurd hz h1
     | cons a r=>rfl
   by_cases rW:n<0
   .have hR:tu (jT g l nx) l.length (jn l.length) (cs L)=(some (yV (cs L) left l.length),outs L.length left):=by unfold tu;rw[hE,if_pos ⟨rfl,hn.1 rW⟩,wR]
    rw[hR,<-zR];have yp:¬ 0<=n:=by omega
    simp[yp,F];(with_reducible repeat' first|refine Xk ?_<;>try simp[yp,F]|refine Xs ?_ ?_<;>intro h<;>(try intro M)<;>(try simp[h,yp,F])<;>try omega|refine Xg ?_|omega);simp[k1,sB,n8,XU,xy,<-hV]
   .have hR:tu (jT g l nx) l.length (jn l.length) (cs L)=(none,outs L.length left):=by unfold tu;rw[hE,if_neg (λh=>rW (hn.2 h.2)),wR]
    rw[hR];have yp:0<=n:=by omega
    simp[yp,F];(with_reducible repeat' first|refine Xk ?_<;>try simp[yp,F]|refine Xs ?_ ?_<;>intro h<;>(try intro M)<;>(try simp[h,yp,F])<;>try omega|refine Xg ?_|omega);simp[k1,sB,XU,xy]
 | A6=>
  have b:d=_:=hP.vd;subst b;have hE:=hS.done hJ λa ls h=>by cases h
  have DN:=jr E.nu;have F:∀R:U,(H'++R)[2]? = some (.row 37 0 [ld]):=λR=>iv E.nq;have RK:jj (H' ++ [Ob.row 89 0 [.i 0,.gg]]).length (H' ++ [Ob.row 89 0 [.i 0,.gg]]):=Ir E.ok rfl λo S=>by rw[List.mem_singleton.1 S];rfl
  have Se:(gW = []/\ld = .gg)\/(gW≠[]/\∃v s,4<v/\ld = .fY v s 1 0 gW.length/\(H' ++ [Ob.row 89 0 [.i 0,.gg]])[v]? = some (.row 3 s (cl f1 gW))):=by
   rcases E.vw with h|⟨h1,v,s,h2,K,h4⟩
   .exact .inl h
   .exact .inr ⟨h1,v,s,h2,K,iv h4⟩
  have HG:=aaY Se (N:=L.length) (left:=left) (by have:=hS.pm;rwa [wR]at this) h8 RK;simp[F];(with_reducible repeat' first|refine Xk ?_<;>try simp[F]|refine Xs ?_ ?_<;>intro h<;>(try intro M)<;>(try simp[h,F])<;>try omega|refine Xg ?_|omega);refine gx.w (by simp;rfl) ?_;refine gx.kH rfl rfl HG ?_;rintro _ A ⟨rfl,Em,XR,zY,p4⟩;have Aa:∀v∈ms,A[v]? = some .ja:=λv b=>zY v _ (iv (D4 v b)) λs n e=>(E.ja (D4 v b)).2 _ _ _ e rfl
  have z7:A[2]? = some (.row 37 0 [ld]):=by
   refine zY 2 _ (F _) λs n e=>?_;rcases Em with⟨_,h⟩|⟨_,v,GC,h1,h,_⟩
   .rw[h]at e;cases e
   .rw[h]at e;cases e;omega
  obtain⟨Hk,k1,k2,k3⟩:=Sr ms A z' Aa;simp[z7];(with_reducible repeat' first|refine Xk ?_<;>try simp[z7]|refine Xs ?_ ?_<;>intro h<;>(try intro M)<;>(try simp[h,z7])<;>try omega|refine Xg ?_|omega);simp[k1]
  have sB:∀d,leave 0 0 Hk d=(gq (λ_=>none) Hk 40 d,[]):=λd=>Sv λe=>by rw[e,XR]at k2;simp at k2
  have hR:tu (jT g l nx) l.length (jn l.length) (cs L)=(none,outs L.length left):=by unfold tu;rw[hE,if_neg (λh=>by cases h.1),wR]
  rw[hR];rcases Em with⟨e,rfl⟩|⟨h1,v,s,_,rfl,b⟩
  .simp[sB,xy,e];rfl
  .have Sa:=(k3 v λh=>by rw[Aa v h]at b;cases b).trans b;simp[sB,xy,Sa]
   cases hz:outs L.length left with
   | nil=>exact absurd hz h1
   | cons a r=>rfl
end Go.Proofs.YtmehofoficaelaaGreatDoor
namespace Go.Proofs.YtmehofoficaelaaGreatDoor
open Go Go.AL Classical
theorem kA.lC{A:mg}{v:List fZ}{i:Int}(a:A.ov i=true->1<=A.rs i/\A.rs i<=3)(h:kA A v i):lC (gt v i)=true:=by
 unfold Proofs.YtmehofoficaelaaGreatDoor.lC;rw[decide_eq_true_iff];rcases h with⟨o,e⟩|⟨_,⟨n,h1,e,_⟩|⟨n,h1,e,_⟩|⟨e,_⟩⟩
 .have:=a o;rw[e]
  by_cases b:A.rs i=2
  .exact .inl (by rw[b])
  .exact .inr iy
 .rw[e];exact .inr ⟨.inl rfl,by dsimp only;omega⟩
 .rw[e];exact .inr ⟨.inr rfl,by dsimp only;omega⟩
 .exact .inl e
theorem X7{V:List fZ}{c:gK}:tR V c=true↔xK V (jn V.length) c:=by
 unfold tR xK;rw[Bool.and_eq_true,decide_eq_true_iff];refine and_congr_right λ_=>⟨λh i hi=>?_,λh i i0 a=>h i ?_⟩
 .unfold jK at hi;rw[decide_eq_true_iff]at hi;exact h i hi.1 hi.2
 .unfold jK;exact decide_eq_true ⟨i0,a⟩
theorem abH{n:Int}{c:gK}(h:jn n c=true)(i:Int)(a:jK c i=true):0<=i/\i<n:=by unfold jn at h;rw[Bool.and_eq_true,decide_eq_true_iff]at h;have:=IY h.1;unfold jK at a;rw[decide_eq_true_iff]at a;omega
structure FE(A:mg)(n:Nat)(V:List fZ):Prop where
 len:V.length=n
 gH:∀i:Int,0<=i->i<n->∀k∈gt A.nx i,0<=k/\k<n
 hV:∀i:Int,0<=i->i<n->kA A V i
 r7:∀i:Int,0<=i->i<n->lC (gt V i)=true
end Go.Proofs.YtmehofoficaelaaGreatDoor
namespace Go.Proofs.YtmehofoficaelaaGreatDoor
open Go Go.AL Classical
section
variable{A:mg}{n:Nat}{V:List fZ}{cl:List gK}
theorem FE.uniq(h:FE A n V){v:List fZ}(hl:v.length=n)(a:∀k:Int,0<=k->k<n->kA A v k):v=V:=
 QG (hl.trans h.len.symm) λj j0 j1=>ahk (S:=λi=>0<=i/\i<n) (λi hi k b=>h.gH i hi.1 hi.2 k b) (λi hi=>a i hi.1 hi.2) (λi hi=>h.hV i hi.1 hi.2) j ⟨j0,by omega⟩
theorem aos(h:FE A n V){ad:gK->Bool}{v:List fZ}{o:List Int}(hs:tu A n ad cl=(some v,o)):v=V:=by
 unfold tu at hs;split at hs
 .rename_i a;cases hs;exact h.uniq (I2 _ _ _) a.2
 .cases hs
theorem aor(h:FE A n V)(d:∀i:Int,0<=i->i<n->∃c∈cl,tR V c=true/\jK c i=true):tu A n (jn n) cl=(some V,(upto cl.length).filter λk => !tR V (gt cl k)):=by
 have b:=h.len;subst b
 obtain⟨L,h1,p,_,m⟩:=aaZ h.gH h.hV h.r7 (λc d i hi=>abH d i hi) (cl.length+1) (upto cl.length) (by rw[pI];omega) (λk a=>jc.1 a) (λi i0 g=>by
  obtain⟨c,q1,q2,q3⟩:=d i i0 g;obtain⟨k,k0,k1,rfl⟩:=wm.1 q1
  exact⟨k,jc.2 ⟨k0,k1⟩,X7.1 q2,q3⟩) (λk k0 k1 _=>jc.2 ⟨k0,k1⟩)
 have l:CN A V.length (jn V.length) cl=(L,.none):=h1
 have f:yV cl L V.length=V:=QG (I2 _ _ _) λj j0 j1=>by rw[I2]at j1;rw[aa0 _ _ j0 j1,m j j0 j1]
 unfold tu;rw[l,f,if_pos ⟨rfl,h.hV⟩];congr 1;refine List.filter_congr λk a=>?_;rw[jc]at a;have:=p k;rw[<-X7]at this
 cases e:tR V (gt cl k)with
 | true=>
  rw[e]at this;simp[this.2 ⟨a,rfl⟩]
 | false=>
  rw[e]at this;have o:k ∉ L:=λa=>by have:=(this.1 a).2;cases this
  simp[o]
end
end Go.Proofs.YtmehofoficaelaaGreatDoor
namespace Go.Proofs.YtmehofoficaelaaGreatDoor
open Go Go.AL Classical
set_option maxRecDepth 10000
set_option maxHeartbeats 8000000
theorem aeS(g:gi)(hg:gV g)(p:Pos)(v:iw g p):Wf T 51 [dG g,dP p,.i 40] [] (Ey (λx:Bool×List Pos=>.agg [if x.1 then gZ x.2 else .gg,.i (if x.1 then 0 else 2)]) (λx=>x.1=true->Ji g x.2/\x.2.length<=40)):=by
 have P:=v.small hg;refine Yz Fx (kD 62 [6,7] (iZ 34 [5] Fx.body)) ?_;simp[Fx,iZ,kD,np,nz,nP,ma];refine gj.fz [3,4] rfl ?_;refine gj.e (([p],[p]):List Pos×List Pos) (λy=>[(2,.i 40),(3,.ptr 0 0 0),(6,.ptr 2 0 0),(7,gZ y.1),(8,gZ y.2)]) (λy=>[.row 43 0 g.cells,.row 46 0 p.cells,.row 123 0 [.gg,.i 0],.dead,.dead]) (λy=>Mn g p y.1 y.2/\y.1.length<=40) (λy=>(81-y.1.length)*2+(if y.2 = []then 0 else 1)) ?_ ?_
 .refine⟨⟨λi h1 s=>by simp at s;omega,by simpa using v,by simp,by simp,by simp,by simp,by simp⟩,by simp⟩
 rintro⟨c,last⟩ ⟨d,B⟩;have u:=d.len;have F:=d.ag8;dsimp only at d u F B ⊢;simp;refine j' ?_ ?_<;>intro h
 .refine gj.e ((0,0,[]):Int×Nat×List Pos) (λy=>[(2,.i 40),(3,.ptr 0 0 0),(6,.ptr 2 0 0),(7,gZ c),(8,gZ last),(9,.fY 5 y.2.1 5 0 y.2.2.length),(10,.i y.1)]) (λy=>[.row 43 0 g.cells,.row 46 0 p.cells,.row 123 0 [.gg,.i 0],.dead,.dead,.row 46 y.2.1 (cl Pos.cells y.2.2)]) (λy=>0<=y.1/\y.1<=last.length/\(∀m,m∈y.2.2↔∃q∈last.take y.1.toNat,rH g q m)/\y.2.2.length<=y.1.toNat*4000000000) (λy=>last.length-y.1.toNat) ?_ ?_
  .simp
  rintro⟨i,L,nx⟩ ⟨i0,H,o,G⟩;dsimp only at i0 H o G ⊢;simp;refine j' ?_ ?_<;>intro h
  .have f:=d.ok _ (d.sub _ (gy i0 ‹_›));have S:=Au hg f;refine Yt (f60 g hg _ f) ?_;simp;refine gd ?_;refine LJ.e (i+1,L+1,nx++iS g (gt last i)) ?_;dsimp only;refine⟨by omega,by omega,by omega,λm=>?_,?_⟩
   .rw[List.mem_append,o,Ch,jq i0 ‹_›];simp only[List.mem_append,List.mem_singleton];constructor
    .rintro(⟨q,a,b⟩|a)
     .exact⟨q,.inl a,b⟩
     .exact⟨_,.inr rfl,a⟩
    .rintro⟨q,a|rfl,b⟩
     .exact .inl ⟨q,a,b⟩
     .exact .inr b
   .rw[ak,show(i+1).toNat=i.toNat+1 by omega,cA];omega
  .rw[ln (by omega)]at o
   have C:∀q∈nx,iw g q:=λq f=>by obtain⟨r,I,n⟩:=(o q).1 f;exact SZ hg (d.ok r (d.sub r I)) n
   refine Yc (Ws nx (by omega) (λq f=>(C q f).small hg)) ?_;simp;have O:=O9 nx;have E:=kU.nodup (CL nx);have t:∀q,q∈kJ nx↔∃r∈last,rH g r q:=λq=>by rw[wB,o]
   have A:∀q∈kJ nx,Small q:=λq f=>(C q (wB.1 f)).small hg;generalize hN:kJ nx=N at *;refine gj.e ((0,0,[]):Int×Nat×List Pos) (λy=>[(2,.i 40),(3,.ptr 0 0 0),(6,.ptr 2 0 0),(7,gZ c),(8,.fY 6 y.2.1 5 0 y.2.2.length),(9,gZ N),(11,.i y.1)]) (λy=>[.row 43 0 g.cells,.row 46 0 p.cells,.row 123 0 [.gg,.i 0],.dead,.dead,.dead,.row 46 y.2.1 (cl Pos.cells y.2.2)]) (λy=>0<=y.1/\y.1<=N.length/\(∀m,m∈y.2.2↔m∈N.take y.1.toNat/\m ∉ c)/\y.2.2.Nodup/\y.2.2.length<=y.1.toNat) (λy=>N.length-y.1.toNat) ?_ ?_
   .simp
   rintro⟨j,gm,l⟩ ⟨j0,j1,j2,j3,j4⟩;dsimp only at j0 j1 j2 j3 j4 ⊢;simp;refine j' ?_ ?_<;>intro h
   .refine Yc (f27 c (gt N j) (by omega) (λq f=>(d.ok q f).small hg) (A _ (gy j0 ‹_›)) d.AN) ?_;simp
    have w:pO c (gt N j)<0↔gt N j ∉ c:=by
     by_cases n:gt N j∈c
     .have:=Gx n;simp[n];omega
     .rw[WC n];simp[n]
    refine j' ?_ ?_<;>intro h
    .refine LJ.e (j+1,gm+1,l ++ [gt N j]) ?_;dsimp only
     have D:gt N j ∉ l:=λn=>by have:=(j2 _).1 n;obtain⟨k,Q,e⟩:=dK.1 this.1;refine bJ.1 E k j.toNat (by omega) (by omega) (by omega) ?_;rw[e,jg j0 ‹_›]
     refine⟨by omega,by omega,by omega,λm=>?_,cO.2 ⟨j3,by simp,λa J b z e=>?_⟩,by simp;omega⟩
     .rw[List.mem_append,j2,jq j0 ‹_›,List.mem_append,List.mem_singleton];constructor
      .rintro(⟨a,b⟩|rfl)
       .exact⟨.inl a,b⟩
       .exact⟨.inr rfl,w.1 h⟩
      .rintro⟨a|a,b⟩
       .exact .inl ⟨a,b⟩
       .exact .inr a
     .rw[List.mem_singleton]at z;subst z;subst e;exact D J
    .refine LJ.e (j+1,gm,l) ?_;dsimp only;refine⟨by omega,by omega,by omega,λm=>?_,j3,by omega⟩;rw[j2,jq j0 ‹_›,List.mem_append,List.mem_singleton];constructor
     .rintro⟨a,b⟩;exact⟨.inl a,b⟩
     .rintro⟨a|rfl,b⟩
      .exact⟨a,b⟩
      .exact absurd (w.2 b) h
   .rw[ln (by omega)]at j2;refine Yc (Ws (c++l) (by simp;omega) (λq f=>(List.mem_append.1 f).elim (λh=>(d.ok q h).small hg) λh=>A q ((j2 q).1 h).1)) ?_;simp;have K:=d.step hg (next:=N) (last':=l) (all':=kJ (c++l)) t j2 j3 (CL _) (λq=>by rw[wB,List.mem_append]);refine j' ?_ ?_<;>intro h
    .exact Ey.i (false,[]) (by simp) rfl (λh=>by cases h)
    .obtain⟨h1,s,R⟩:=K (by omega);refine LJ.e (kJ (c++l),l) ?_;dsimp only;refine⟨?_,h1,by simp at *;omega⟩;have M:last≠[]:=λe=>by subst e;simp at *
     rw[if_neg M]
     by_cases e:l = []
     .rw[if_pos e];omega
     .have:=s e;rw[if_neg e];have:=h1.len;omega
 .refine Ey.i (true,c) (by simp) rfl λ_=>⟨⟨d.AN,d.ok,λq f=>d.cl q f ?_,?_⟩,B⟩
  .have:last = []:=ay.1 (by omega);rw[this];simp
  .have:=fF d.has;exact⟨this,u⟩
theorem aeI(x:qv)(c:Jh x):Wf T 13 [.agg x.cells,.i 40] [] (Ey (λy:gi×Pos×Bool×List Pos=>.agg (y.1.cells++(y.2.1.cells ++ [if y.2.2.1 then gZ y.2.2.2 else .gg,.b y.2.2.1]))) λy=>gV y.1/\iw y.1 y.2.1/\(y.2.2.1=true->Ji y.1 y.2.2.2/\y.2.2.2.length<=40)):=by
 have hl:x.l.length=18:=c.len;have f:x.cells.length=31:=by simp[qv.cells,Raw.cells,c.len]
 have d:x.cells.take 31=x.cells:=af (by omega);refine Yg J1 ?_;simp[J1,hl];refine⟨by omega,?_⟩;rw[d];refine gx.q rfl rfl (f32 x c) (by simpa using Vl x) (λ_=>by simp) ?_;rintro⟨g,p⟩ ⟨hg,a⟩;dsimp only at hg a;simp;refine gx.q rfl rfl (aeS g hg p a) (by simp) (λy=>by obtain⟨b,l⟩:=y;cases b<;>simp) ?_;intro y e;simp;obtain⟨b,l⟩:=y;cases b
 .simp;exact Ey.i (g,p,false,l) rfl rfl ⟨hg,a,λh=>by cases h⟩
 .simp;exact Ey.i (g,p,true,l) rfl rfl ⟨hg,a,e⟩
theorem adJ(g:gi)(hg:gV g)(l:List Pos)(d:pa g l)(h0:0<l.length)(h:l.length<=1000){L:List Cw}{dcl:D}(b:dcl = .sl 36 (L.map gR)\/(L = []/\dcl = .gg))
  (f:∀x∈L,x.ok) (e:∀x∈L,∀r∈x.c.es,r.2<=4000) (i:L.length<=100000) :
  Wf T 33 [dG g,gZ l,dcl] [] (Is (.agg (xy (tu (jT g l (gC g l)) l.length (jn l.length) (cs L))))):=by
 have c:=adD g hg l d h0 h b f e i
 have a:closed dcl=true:=by
  rcases b with rfl|⟨rfl,rfl⟩
  .exact wP L
  .rfl
 obtain⟨S,hS⟩:∃S,tu (jT g l (gC g l)) l.length (jn l.length) (cs L)=S:=⟨_,rfl⟩;rw[hS]at c ⊢;clear hS;obtain⟨_|v,o⟩:=S
 .simp only[xy]at c;refine Yg CY ?_;simp[CY,a];refine Yc c ?_ rfl rfl (by simp[a]) (by simp);simp;refine gd ?_;rfl
 .simp only[xy]at c;refine Yg CY ?_;simp[CY,a];refine Yc c ?_ rfl rfl (by simp[a]) (by simp);simp;refine gd ?_;rfl
structure T0(x:Cw):Prop where
 ok:x.ok
 b:∀r∈x.c.es,r.2<=4000
theorem abz{w:Wk}{v:List fZ}{lo:Int}{r:fZ}:∀ {n:Nat},r∈mA w v lo n->0<=lo->lo+n<=v.length->r∈v\/r=(w.lr,w.lk)
 | 0,h,_,_=>by cases h
 | n+1,h,h0,h1=>by
  rcases List.mem_append.1 h with h|h
  .exact abz h h0 (by omega)
  .rw[List.mem_singleton.1 h,xF];split
   .exact .inr rfl
   .exact .inl (gy (by omega) (by omega))
theorem aoI{w:Wk}(b:w.ok){who:Int}{p:fZ}{v:List fZ}(a:0<=p.1/\p.1<p.2/\p.2<=v.length)(e:v.length<=64)(c:∀r∈v,r.2<=4000) :
  T0 (o8 w who p v)/\((o8 w who p v).em=false/\0<=(o8 w who p v).c.lo/\(o8 w who p v).c.lo<(o8 w who p v).c.hi/\(o8 w who p v).c.hi<=v.length/\((o8 w who p v).c.es.length:Int)=(o8 w who p v).c.hi-(o8 w who p v).c.lo/\(o8 w who p v).c.root=ki (o8 w who p v).c.es):=by
 have hl:=yY w v p.1 (p.2-p.1).toNat;unfold o8;refine⟨⟨⟨(λh=>by cases h),?_,xv _,?_,?_⟩,λr d=>?_⟩,rfl,?_,?_,?_,?_,rfl⟩
 .dsimp only;omega
 .dsimp only;omega
 .dsimp only;omega
 .rcases abz d a.1 (by omega)with h|rfl
  .exact c r h
  .have:=b.lk;dsimp only;omega
 .exact a.1
 .exact a.2.1
 .exact a.2.2
 .dsimp only;omega
theorem aaC{ws:List Wk}{v P:List fZ}{t:Int}(b:∀w∈ws,w.ok)(hP:∀p∈P,0<=p.1/\p.1<p.2/\p.2<=v.length)(e:0<P.length)(d:v.length<=64)(c:∀r∈v,r.2<=4000) :
  ∀n,n<=ws.length->∀x∈ry ws v P t n,T0 x/\(true=true->x.em=false/\0<=x.c.lo/\x.c.lo<x.c.hi/\x.c.hi<=v.length/\(x.c.es.length:Int)=x.c.hi-x.c.lo/\x.c.root=ki x.c.es)
 | 0,_,x,a=>by cases a
 | n+1,hn,x,a=>by
  rcases List.mem_append.1 a with a|a
  .exact aaC b hP e d c n (by omega) x a
  .split at a
   .rw[List.mem_singleton.1 a];have:=aoI (who:=n) (b (gt ws n) (gy (by omega) (by omega))) (hP (gt P ((n:Int) % P.length)) (gy (bL _ (by omega)) (bE _ (by omega)))) d c;exact⟨this.1,λ_=>this.2⟩
   .cases a
end Go.Proofs.YtmehofoficaelaaGreatDoor
namespace Go.Proofs.YtmehofoficaelaaGreatDoor
open Go Go.AL Classical
set_option maxRecDepth 10000
set_option maxHeartbeats 4000000
section
variable{g:gi}{l:List Pos}
theorem WJ(hg:gV g)(a:pa g l):xH g l (gC g l) (upto l.length) 1:=
 ⟨hg,a.ok,a.len,by simp[gC],λi i0 b=>⟨(ru a i0 b).2,by rw[(ru a i0 b).1,List.length_map];have:=Au hg (a.ok _ (gy i0 b));omega⟩,λi hi=>jc.1 hi,
  eZ.2 (List.nodup_range.imp λh e=>h (Int.ofNat.inj e)),by simp[upto];exact a.len,by omega⟩
theorem FI.congr{v0 v v':List fZ}{b x:List Bool}{n:Int}(G:pa g l)(h:FI g l (gC g l) (upto l.length) v0 n v b)(F:v'.length=l.length)(H:x.length=l.length)
  (u:∀k:Int,0<=k->k<l.length->gt x k=gt b k) (z:∀k:Int,0<=k->k<l.length->gt b k=false->gt v' k=gt v k):FI g l (gC g l) (upto l.length) v0 n v' x:=by
 have gH:=λ(i:Int) (hi:i∈upto l.length)=>(ru G (jc.1 hi).1 (jc.1 hi).2).2;have t:=λ(i:Int) (hi:i∈upto l.length) k d=>u k (gH i hi k d).1 (gH i hi k d).2;have r:=λ(i:Int) (hi:i∈upto l.length) k d=>z k (gH i hi k d).1 (gH i hi k d).2;refine⟨F,H,λk k0 k1 d=>absurd (jc.2 ⟨k0,k1⟩) d,λi hi e=>?_,λi hi e n0=>?_⟩
 .have p:=jc.1 hi;rw[u i p.1 p.2]at e;obtain⟨a,c⟩:=h.dec i hi e;rw[z i p.1 p.2 e];refine⟨a,?_⟩;rcases c with c|⟨A,⟨m,m1,c2,⟨k,d,s,w⟩,J⟩|⟨m,m1,c2,s,k,d,w⟩⟩
  .exact .inl c
  .refine .inr ⟨A,.inl ⟨m,m1,c2,⟨k,d,by rw[t i hi k d];exact s,by rw[r i hi k d s];exact w⟩,λq j f o=>?_⟩⟩;rw[t i hi q j]at f;rw[r i hi q j f]at o ⊢;exact J q j f o
  .refine .inr ⟨A,.inr ⟨m,m1,c2,λq j=>?_,k,d,by rw[r i hi k d (s k d).1];exact w⟩⟩;rw[t i hi q j,r i hi q j (s q j).1];exact s q j
 .have p:=jc.1 hi;rw[u i p.1 p.2]at e;obtain⟨D,C,B⟩:=h.Co i hi e n0;refine⟨D,λk d f o=>?_,λE I=>?_⟩
  .rw[t i hi k d]at f;rw[r i hi k d f]at o ⊢;exact C k d f o
  .have y:∀k∈gt (gC g l) i,gt b k=false/\(gt v k).1=1:=λk d=>by obtain⟨f,o⟩:=I k d;rw[t i hi k d]at f;rw[r i hi k d f]at o;exact⟨f,o⟩
   obtain⟨k,d,h1⟩:=B E y;exact⟨k,d,by rw[r i hi k d (y k d).1];exact h1⟩
structure KI(g:gi)(l:List Pos)(n:Int)(v:List Kn):Prop where
 len:v.length=l.length
 fi:FI g l (gC g l) (upto l.length) [] n (kV v) (kB v)
theorem YN(v:List Kn):(kV v).length=v.length:=by simp[kV]
theorem YM(v:List Kn):(kB v).length=v.length:=by simp[kB]
theorem KI.start(j:pa g l):KI g l 1 (l.map (s0 g)):=by
 have hl:(l.map (s0 g)).length=l.length:=by simp
 have f:∀k:Int,0<=k->k<l.length->gt (l.map (s0 g)) k=s0 g (gt l k):=λk k0 k1=>by rw[jg k0 (by rw[hl];exact k1),jg k0 k1,List.getElem_map]
 have hV:∀k:Int,0<=k->k<l.length->gt (kV (l.map (s0 g))) k=((stat g (gt l k)).1,0):=λk k0 k1=>by rw[Bo k0 (by rw[hl];exact k1),f k k0 k1];rfl
 have d:∀k:Int,0<=k->k<l.length->gt (kB (l.map (s0 g))) k = !(stat g (gt l k)).2:=λk k0 k1=>by rw[wX k0 (by rw[hl];exact k1),f k k0 k1];rfl
 have gH:=λ(i:Int) (hi:i∈upto l.length)=>(ru j (jc.1 hi).1 (jc.1 hi).2).2;refine⟨hl,by rw[YN,hl],by rw[YM,hl],λk k0 k1 b=>absurd (jc.2 ⟨k0,k1⟩) b,λi hi e=>?_,λi hi e _=>?_⟩
 .have a:=jc.1 hi;rw[d i a.1 a.2]at e;rw[hV i a.1 a.2];exact⟨by simp,.inl ⟨by simpa using e,rfl⟩⟩
 .have a:=jc.1 hi;rw[d i a.1 a.2]at e;refine⟨by simpa using e,λk b _ _=>by rw[hV k (gH i hi k b).1 (gH i hi k b).2];simp,λh _=>?_⟩;have m:=ax.2 h;have c:=gy (l:=gt (gC g l) i) (n:=0) (by omega) (by omega);exact⟨_,c,by rw[hV _ (gH i hi _ c).1 (gH i hi _ c).2];simp⟩
theorem KI.nn{n:Int}{v:List Kn}(h:KI g l n v){k:Int}(k0:0<=k)(k1:k<l.length)(e:(gt v k).2.2=true):0<=(gt v k).2.1:=by
 have k2:k<v.length:=by rw[h.len];exact k1
 have:=(h.fi.dec k (jc.2 ⟨k0,k1⟩) (by rw[wX k0 k2,e];rfl)).1.1;rwa [Bo k0 k2]at this
theorem KI.ne{n:Int}{v:List Kn}(b:pa g l)(h:KI g l n v)(n0:0<n){k:Int}(k0:0<=k)(k1:k<l.length)(e:(gt v k).2.2=false):gt (gC g l) k≠[]:=λa=>by
 have k2:k<v.length:=by rw[h.len];exact k1
 have:=(h.fi.Co k (jc.2 ⟨k0,k1⟩) (by rw[wX k0 k2,e];rfl) n0).1;rw[(ru b k0 k1).1,List.map_eq_nil_iff]at a;unfold stat at this;simp[a]at this
theorem KI.step(hg:gV g)(m:pa g l){n:Int}{v now:List Kn}(h:KI g l n v)(n1:1<=n)(hl:now.length=l.length)
  (q:∀k:Int,0<=k->k<l.length->gt now k=if (gt v k).2.2=false then pL v (gt (gC g l) k) n else gt v k):KI g l (n+1) now:=by
 have o:=WJ hg m;have s:=h.fi.vl;have p:=h.fi.bl;have hs:=h.fi.step (v0:=[]) o (λk k0 k1=>(dX 0:0<=(gt ([]:List fZ) k).2)) (by omega:0<=n)
 have d:∀k:Int,0<=k->k<l.length->(k∈sv g l (gC g l) (upto l.length) (kV v) (kB v) n↔(gt v k).2.2=false/\(pg g (gt l k) (kV v) (kB v) (gt (gC g l) k) n).2=true):=λk k0 k1=>by
  have k2:k<v.length:=by rw[h.len];exact k1
  unfold sv S5;rw[aN,Bool.and_eq_true,wX k0 k2,jc];simp only[dq];exact⟨λa=>⟨a.2.2,a.2.1⟩,λa=>⟨⟨k0,k1⟩,a.2,a.1⟩⟩
 have j:∀k:Int,0<=k->k<l.length->(gt v k).2.2=false->((pg g (gt l k) (kV v) (kB v) (gt (gC g l) k) n).2=true->pL v (gt (gC g l) k) n=((pg g (gt l k) (kV v) (kB v) (gt (gC g l) k) n).1.1,(pg g (gt l k) (kV v) (kB v) (gt (gC g l) k) n).1.2,true))/\((pg g (gt l k) (kV v) (kB v) (gt (gC g l) k) n).2=false->pL v (gt (gC g l) k) n=(0,0,false)):=λk k0 k1 e=>by
  have r:=ax.2 (h.ne m (by omega) k0 k1 e);unfold pg pL;rw[if_neg (by omega)]
  by_cases i:Cc (kV v) (kB v) (gt (gC g l) k) n
  .rw[if_pos i,if_pos i];exact⟨λ_=>rfl,λe=>by cases e⟩
  .rw[if_neg i,if_neg i];simp only[decide_eq_true_eq,decide_eq_false_iff_not];exact⟨λa=>by rw[if_pos ⟨a.2.1,a.2.2⟩],λa=>by rw[if_neg λb=>a ⟨r,b⟩]⟩
 refine⟨hl,hs.congr m (by rw[YN,hl]) (by rw[YM,hl]) (λk k0 k1=>?_) λk k0 k1 e=>?_⟩
 .have k2:k<now.length:=by rw[hl];exact k1
  have k3:k<v.length:=by rw[h.len];exact k1
  rw[wX k0 k2,QH o p k0 k1,q k k0 k1,wX k0 k3]
  by_cases e:(gt v k).2.2=false
  .rw[if_pos e]
   by_cases c:(pg g (gt l k) (kV v) (kB v) (gt (gC g l) k) n).2=true
   .rw[(j k k0 k1 e).1 c,if_pos ((d k k0 k1).2 ⟨e,c⟩)];rfl
   .rw[(j k k0 k1 e).2 (by simpa using c),if_neg λa=>c ((d k k0 k1).1 a).2,e]
  .rw[if_neg e,if_neg λa=>e ((d k k0 k1).1 a).1]
 .have k2:k<now.length:=by rw[hl];exact k1
  have k3:k<v.length:=by rw[h.len];exact k1
  rw[QH o p k0 k1,wX k0 k3]at e;rw[Bo k0 k2,W4 o s p k0 k1,q k k0 k1,Bo k0 k3]
  by_cases f:(gt v k).2.2=false
  .rw[if_pos f]
   by_cases c:(pg g (gt l k) (kV v) (kB v) (gt (gC g l) k) n).2=true
   .rw[(j k k0 k1 f).1 c,if_pos ((d k k0 k1).2 ⟨f,c⟩)];rfl
   .rw[if_neg λa=>c ((d k k0 k1).1 a).2,f]at e;cases e
  .rw[if_neg f,if_neg λa=>f ((d k k0 k1).1 a).1]
theorem KI.done(hg:gV g)(q:pa g l){v:List Kn}(h:KI g l (l.length+1) v){out:List fZ}(hl:out.length=l.length)
  (r:∀k:Int,0<=k->k<l.length->gt out k=if (gt v k).2.2=true then((gt v k).1,(gt v k).2.1)else(2,0)):∀k:Int,0<=k->k<l.length->kA (jT g l (gC g l)) out k:=by
 have o:=WJ hg q;have gH:=λ(i:Int) (hi:i∈upto l.length)=>(ru q (jc.1 hi).1 (jc.1 hi).2).2
 have t:=U5 (n:=l.length) (N:=λi=>(gt (kV v) i).2) (K:=λi=>i∈upto l.length/\gt (kB v) i=false) (λi hi=>⟨jc.1 hi.1,(h.fi.dec i hi.1 hi.2).1.1⟩) (λi hi=>by
  rcases(h.fi.dec i hi.1 hi.2).2 with⟨_,c⟩|⟨_,⟨m,m1,c2,⟨k,b,j,f⟩,_⟩|⟨m,m1,c2,j,k,b,f⟩⟩
  .left;show(gt (kV v) i).2=0;rw[c]
  .right;exact⟨k,⟨jc.2 (gH i hi.1 k b),j⟩,by show(gt (kV v) k).2=(gt (kV v) i).2-1;rw[c2,f]⟩
  .right;exact⟨k,⟨jc.2 (gH i hi.1 k b),(j k b).1⟩,by show(gt (kV v) k).2=(gt (kV v) i).2-1;rw[c2,f]⟩)
 have s:=ae3 o (by omega) h.fi (λk k0 k1 e _=>by have:=t k ⟨jc.2 ⟨k0,k1⟩,e⟩;omega);obtain⟨_,f2⟩:=Wy o h.fi.vl h.fi.bl
 have p:∀k:Int,0<=k->k<l.length->gt out k=gt (wV (upto l.length) (kV v) (kB v)).1 k:=λk k0 k1=>by
  have k2:k<v.length:=by rw[h.len];exact k1
  rw[r k k0 k1,(f2 k k0 k1).1,wX k0 k2,Bo k0 k2]
  by_cases e:(gt v k).2.2=true
  .rw[if_pos e,if_neg λa=>by rw[e]at a;exact absurd a.2 (by simp)]
  .rw[if_neg e,if_pos ⟨jc.2 ⟨k0,k1⟩,by simpa using e⟩]
 exactλi i0 d=>(s i (jc.2 ⟨i0,d⟩)).congr (p i i0 d) λk b=>p k (gH i (jc.2 ⟨i0,d⟩) k b).1 (gH i (jc.2 ⟨i0,d⟩) k b).2
