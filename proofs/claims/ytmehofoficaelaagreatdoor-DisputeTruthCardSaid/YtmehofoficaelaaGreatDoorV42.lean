/- Part 42 of DisputeTruth. -/
import Derived.Test.YtmehofoficaelaaGreatDoorV41
set_option linter.all false
namespace Go.Proofs.YtmehofoficaelaaGreatDoor
open Go Go.AL Classical
def outs(n:Nat)(left:List Int):List Int:=(upto n).filter λk => !left.contains k
theorem Tz(n:Nat):(upto n).Nodup:=(TA n).imp λh e=>by omega
theorem ama{n:Nat}{gO left:List Int}(h:(gO++left).Perm (upto n)):gO.mergeSort (λx y=>decide (x<=y))=outs n left:=by
 have g:(gO++left).Nodup:=h.nodup_iff.2 (Tz n);rw[cN]at g;obtain⟨h1,_,d⟩:=g;have i:=List.mergeSort_perm gO (λx y=>decide (x<=y));have f:(gO.mergeSort (λx y=>decide (x<=y))).Nodup:=i.nodup_iff.2 h1
 have hs:(gO.mergeSort (λx y=>decide (x<=y))).Pairwise λx y=>decide (x<=y)=true:=
  fq (λa b c h1 d=>by simp only[decide_eq_true_eq]at h1 d ⊢;omega) (λa b=>by simp only[bM,decide_eq_true_eq];omega) gO
 refine Ez ((hs.and f).imp λ⟨h1,d⟩=>by simp only[decide_eq_true_eq]at h1;omega) ((TA n).filter _) λk=>?_;unfold outs;rw[i.mem_iff,aM];have e:=h.mem_iff (a:=k);rw[List.mem_append]at e;simp only[cZ,dp,decide_eq_false_iff_not];constructor
 .intro j;exact⟨e.1 (.inl j),λhl=>d k j k hl rfl⟩
 .rintro⟨q1,q2⟩;exact(e.2 q1).resolve_right q2
theorem amJ{left ls:List Int}(g:ls.Nodup)(i:∀p∈ls,0<=p/\p<left.length):((ls.reverse.map λk=>gt left k)++mC left ls).Perm left:=by
 have e:(upto left.length).map (λp=>gt left p)=left:=by have:=aaj left;unfold mC at this;rwa [eI.2 (by simp)]at this
 have h1:(ls.reverse++(upto left.length).filter λp => !ls.contains p).Perm (upto left.length):=by
  refine(List.perm_ext_iff_of_nodup ?_ (Tz _)).2 λk=>?_
  .rw[cN];refine⟨(List.reverse_perm ls).nodup_iff.2 g,(Tz _).filter _,λa c b d e=>?_⟩;rw[List.mem_reverse]at c;rw[aM]at d;rw[e]at c;simp[c]at d
  .rw[List.mem_append,List.mem_reverse,aM,iS];have:=i k
   by_cases h:k∈ls
   .simp[h,this h]
   .simp[h]
 have f:=h1.map (λp=>gt left p);rw[e,List.map_append]at f;exact f
noncomputable def Cf(A:l6)(n:Nat)(ad:gA->Bool)(cl:List gA):List Int×Jd:=Cg A n ad cl (cl.length+1) (upto cl.length)
structure SI(A:l6)(n:Nat)(ad:gA->Bool)(cl:List gA)(left gO:List Int):Prop where
 pm:(gO++left).Perm (upto cl.length)
 st:∃f,left.length<f/\Cg A n ad cl f left=Cf A n ad cl
section
variable{A:l6}{n:Nat}{ad:gA->Bool}{cl:List gA}{left gO:List Int}
theorem SI.start:SI A n ad cl (upto cl.length) []:=⟨by simp,_,by rw[pd];omega,rfl⟩
theorem SI.rng(h:SI A n ad cl left gO):∀k∈left,0<=k/\k<cl.length:=λk a=>iS.1 (h.pm.mem_iff.1 (bB _ a))
theorem SI.len(h:SI A n ad cl left gO):gO.length+left.length=cl.length:=by have:=h.pm.length_eq;rwa [aj,pd]at this
theorem SI.step(h:SI A n ad cl left gO){a:Int}{ls:List Int}(g:mS A n ad (left.map λk=>gt cl k) = .v a ls) :
  SI A n ad cl (mC left ls) (gO++ls.reverse.map λk=>gt left k)/\(mC left ls).length<left.length/\(∀p∈ls,0<=p/\p<left.length)/\ls.Pairwise (· < ·)/\ls≠[]:=by
 obtain⟨⟨q,d⟩,i,_⟩:=agi g
 have c:∀p∈ls,0<=p/\p<left.length:=λp b=>by rw[d]at b;have:=af5 p b;rwa [List.length_map]at this
 have hs:ls.Pairwise (· < ·):=by rw[d];exact af6
 obtain⟨p,b⟩:=cI _ i;have j:=aai b (c p b).1 (c p b).2;obtain⟨f,l,e⟩:=h.st;refine⟨⟨?_,?_⟩,j,c,hs,i⟩
 .rw[aJ];exact((amJ (hs.imp λh e=>by omega) c).append_left gO).trans h.pm
 .cases f with
  | zero=>omega
  | succ f=>
   rw[Cg,g]at e;exact⟨f,by omega,e⟩
theorem SI.done(h:SI A n ad cl left gO){J:Jd}(c:mS A n ad (left.map λk=>gt cl k)=J)(b:∀a ls,J≠.v a ls):Cf A n ad cl=(left,J):=by
 obtain⟨f,d,e⟩:=h.st;rw[<-e]
 cases f with
 | zero=>omega
 | succ f=>
  rw[Cg,c]
  cases J with
  | v a ls=>exact absurd rfl (b a ls)
  | none=>rfl
  | AF=>rfl
theorem agj(h:mS A n ad cl = .none){i:Int}(i0:0<=i)(b:i<n):∀r∈sd cl i,ln r=true:=λr d=>by
 unfold mS at h;split at h
 .cases h
 split at h
 .cases h
 split at h
 .cases h
 .rename_i a;obtain⟨c,f,g,rfl⟩:=sf.1 d;have:=dj.1 a i (iS.2 ⟨i0,b⟩);simp only[decide_eq_true_eq,Classical.not_not]at this
  cases e:ln (ky c i)with
  | true=>rfl
  | false=>exact absurd this (x8.2 ⟨c,f,by simp[g,e]⟩)
end
def yy(cl:List gA)(left:List Int)(n:Nat):List fO:=(upto n).map λi=>nc (sd (left.map λk=>gt cl k) i)
theorem Ir(cl:List gA)(left:List Int)(n:Nat):(yy cl left n).length=n:=by unfold yy;rw[List.length_map,pd]
theorem aaK(cl:List gA)(left:List Int){n:Nat}{i:Int}(i0:0<=i)(a:i<n):gt (yy cl left n) i=nc (sd (left.map λk=>gt cl k) i):=by rw[jb i0 (by rw[Ir];exact a)];unfold yy;rw[List.getElem_map];congr 2;simp[upto];omega
noncomputable def sW(A:l6)(n:Nat)(ad:gA->Bool)(cl:List gA):Option (List fO)×List Int:=
 (if (Cf A n ad cl).2 = .none/\∀k:Int,0<=k->k<n->kn A (yy cl (Cf A n ad cl).1 n) k then some (yy cl (Cf A n ad cl).1 n)else none,outs cl.length (Cf A n ad cl).1)
def w9:Option (List fO)×List Int->List D
 | (some v,o)=>[ie v,dN 1 f1 o,.i 0]
 | (none,o)=>[.fX,dN 1 f1 o,.i 180]
theorem acI{L:List Cw}{left:List Int}(h:∀k∈left,0<=k/\k<L.length):cs (left.map λk=>gt L k)=left.map λk=>gt (cs L) k:=by unfold cs;rw[bY];refine au λk a=>?_;have:=h k a;exact(Qd this.1 this.2).symm
theorem R2:∀(ms:List Nat) (H:U),ms.Nodup->(∀v∈ms,H[v]? = some .jv)->∃H',kill ms H=some H'/\H'.length=H.length/\∀w:Nat,w ∉ ms->H'[w]? = H[w]?
 | [],H,_,_=>⟨H,rfl,rfl,λ_ _=>rfl⟩
 | v::ms,H,hn,h=>by
  rw[cL]at hn
  obtain⟨H',h1,c,b⟩:=R2 ms (H.set v .dead) hn.2 λw a=>by rw[aB (λe=>hn.1 (by rw[e];exact a))];exact h w (a8 _ a)
  refine⟨H',?_,by rw[c,ar],λw a=>?_⟩
  .rw[kill,h v List.mem_cons_self];exact h1
  .rw[aw,not_or]at a;rw[b w a.2,aB (cu a.1)]
end Go.Proofs.YtmehofoficaelaaGreatDoor
namespace Go.Proofs.YtmehofoficaelaaGreatDoor
open Go Go.AL Classical
structure CB(g:fY)(l:List Pos)(nx:List (List Int))(L:List Cw)(left:List Int)(old:D)(Hs Hc:U)(y:Nat)(dv:D):Prop where
 ct:Hc[1]? = some (.row 168 0 (ke g l nx dv old))
 dv:(y=0/\dv = .fX)\/(0<y/\∃v gn,Hs.length<=v/\dv = .fM v gn 36 0 y/\Hc[v]? = some (.row 72 gn (cl gT ((left.take y).map λk=>gt L k))))
 kp:∀w o,Hs[w]? = some o->w≠1->Hc[w]? = some o
 ok:jl Hc.length Hc
 le:Hs.length<=Hc.length
section
variable{g:fY}{l:List Pos}{nx:List (List Int)}{L:List Cw}{left:List Int}{old dv:D}{Hs Hc:U}{y:Nat}
theorem NY{n:Nat}{dv old:D}(h1:jm n dv=true)(a:jm n old=true):mT n (.row 168 0 (ke g l nx dv old))=true:=by unfold ke;simp[h1,a]
theorem CB.start{d0:D}(h1:Hs[1]? = some (.row 168 0 (ke g l nx d0 old)))(fV:jl Hs.length Hs):CB g l nx L left old Hs (Hs.set 1 (.row 168 0 (ke g l nx .fX old))) 0 .fX:=by have hl:=jj h1;have b:jm Hs.length old=true:=List.all_eq_true.1 (fV _ (List.mem_of_getElem? h1)) old (by unfold ke;simp);refine⟨aL hl,.inl ⟨rfl,rfl⟩,λw o a c=>by rw[aB (cu c)];exact a,?_,by rw[ar];exact Nat.le_refl _⟩;rw[ar];exact pG fV (NY rfl b)
theorem CB.ZF(h:CB g l nx L left old Hs Hc y dv):jm Hc.length old=true:=List.all_eq_true.1 (h.ok _ (List.mem_of_getElem? h.ct)) old (by unfold ke;simp)
theorem CB.more(h:CB g l nx L left old Hs Hc y dv){o:Ob}(c:mT (Hc.length+1) o=true):CB g l nx L left old Hs (Hc ++ [o]) y dv:=by
 refine⟨ig h.ct,?_,λw o b d=>ig (h.kp w o b d),?_,by rw[aj];have:=h.le;omega⟩
 .rcases h.dv with h1|⟨h1,v,j,i,f,e⟩
  .exact .inl h1
  .exact .inr ⟨h1,v,j,i,f,ig e⟩
 .rw[aj,aV];refine tN (wZ (by omega) h.ok) λx a=>?_;rw[List.mem_singleton.1 a];exact c
theorem aaT{y:Nat}(a:y<left.length):(left.take (y+1)).map (λk=>gt L k)=(left.take y).map (λk=>gt L k) ++ [gt L (gt left (y:Int))]:=by rw[dm,List.getElem?_eq_getElem a,List.map_append,jb (l:=left) (by omega) (by omega)];simp
theorem CB.abo(h:CB g l nx L left old Hs Hc 0 .fX)(b:0<left.length) :
  CB g l nx L left old Hs ((Hc.set 1 (.row 168 0 (ke g l nx (.fM Hc.length 0 36 0 1) old))) ++ [.row 72 0 (gT (gt L (gt left 0)))]) 1 (.fM Hc.length 0 36 0 1):=by
 have hl:=jj h.ct;have e:=aaT (L:=L) b;refine⟨ig (aL hl),.inr ⟨by omega,Hc.length,0,h.le,rfl,?_⟩,λw o d a=>ig (by rw[aB (cu a)];exact h.kp w o d a),?_,by rw[aj,ar];have:=h.le;omega⟩
 .rw[ai (by rw[ar];omega),ar,bV,e];simp[iI]
 .rw[aj,ar,aV];refine tN (pG (wZ (by omega) h.ok) (NY (by simp) (Er (by omega) h.ZF))) λx c=>?_;rw[List.mem_singleton.1 c];exact zX (Fl.cl _)
theorem CB.abp{v a:Nat}(h:CB g l nx L left old Hs Hc y (.fM v a 36 0 y))(n:1<Hs.length)(i:y<left.length)(j:Hs.length<=v)(m:Hc[v]? = some (.row 72 a (cl gT ((left.take y).map λk=>gt L k)))) :
  CB g l nx L left old Hs ((Hc.set v (.row 72 (a+1) (cl gT ((left.take y).map λk=>gt L k)++gT (gt L (gt left (y:Int)))))).set 1 (.row 168 0 (ke g l nx (.fM v (a+1) 36 0 (y+1)) old))) (y+1) (.fM v (a+1) 36 0 (y+1)):=by
 have hl:=jj h.ct;have b:=jj m;have e:=aaT (L:=L) i
 have f:cl gT ((left.take y).map λk=>gt L k)++gT (gt L (gt left (y:Int)))=cl gT ((left.take (y+1)).map λk=>gt L k):=by rw[e,<-AA,iI]
 refine⟨aL (by rw[ar];exact hl),.inr ⟨by omega,v,a+1,j,rfl,?_⟩,λw o c d=>?_,?_,by rw[ar,ar];exact h.le⟩
 .rw[aB (by omega),aL b,f]
 .rw[aB (cu d),aB (by have:=jj c;omega)];exact h.kp w o c d
 .rw[ar,ar];refine pG (pG h.ok ?_) (NY (by simp[b]) h.ZF);rw[f];exact ym _
structure LA(g:fY)(H:U)(left gO:List Int)(ld:D):Prop where
 h0:H[0]? = some (.row 43 0 g.cells)
 mY:H[2]? = some (.row 37 0 [ld])
 vw:(gO = []/\ld = .fX)\/(gO≠[]/\∃v gn,4<v/\ld = .fM v gn 1 0 gO.length/\H[v]? = some (.row 3 gn (cl f1 gO)))
 arr:∃zs,gw zs=true/\H[3]? = some (.row 3 0 (cl f1 left++zs))
 mZ:H[4]? = some (.row 37 0 [.fM 3 0 1 0 left.length])
theorem LA.mono{H H':U}{gO:List Int}{ld:D}(h:LA g H left gO ld)(a:∀w o,H[w]? = some o->w≠1->H'[w]? = some o):LA g H' left gO ld:=by
 refine⟨a _ _ h.h0 (by omega),a _ _ h.mY (by omega),?_,?_,a _ _ h.mZ (by omega)⟩
 .rcases h.vw with h1|⟨h1,v,f,e,d,c⟩
  .exact .inl h1
  .exact .inr ⟨h1,v,f,e,d,a _ _ c (by omega)⟩
 .obtain⟨zs,b,h1⟩:=h.arr;exact⟨zs,b,a _ _ h1 (by omega)⟩
theorem CB.toLB{gO:List Int}{ld:D}(a:LA g Hs left gO ld)(h:CB g l nx L left old Hs Hc left.length dv):LB g l nx L Hc left gO ld dv:=by
 have h1:=a.mono h.kp;refine⟨h1.h0,⟨_,h.ct⟩,h1.mY,h1.vw,h1.arr,h1.mZ,h.ok,?_⟩;rcases h.dv with⟨c,b⟩|⟨c,v,f,b,e,d⟩
 .exact .inr (.inl ⟨by rw[ay.1 c];rfl,b⟩)
 .have hl:=jj a.mZ;refine .inr (.inr ⟨v,f,by omega,by rw[e];simp,?_⟩);rw[d,dA]
theorem l8.aha{H H':U}{ck sr n:Nat}{M:Nat->jY}{ow:Nat->Nat×Nat×Nat}{P:Nat->Nat}{Q:Nat->Nat->Nat}(h:l8 H ck sr n M ow P Q)(b:∀v o,H[v]? = some o->ow v≠(5,0,0)->H'[v]? = some o):l8 H' ck sr n M ow P Q:=by
 refine⟨h.fc,h.fs,b _ _ h.row (by rw[h.fs];simp),λj c=>?_,λj c t x d=>?_⟩
 .obtain⟨h1,a⟩:=h.mp j c;exact⟨b _ _ h1 (by rw[a];simp),a⟩
 .obtain⟨h1,a⟩:=h.ls j c t x d;exact⟨b _ _ h1 (by rw[a];simp),a⟩
def IE(cm:List gA)(k:Int)(V:List fO)(seen:List Nat):List fO:=if seen = []then V else pt V k (nc (sd cm k))
@[simp] theorem ay9(cm:List gA)(k:Int)(V:List fO):IE cm k V []=V:=if_pos rfl
theorem aa1{cm:List gA}{k:Int}{V:List fO}{seen:List Nat}(h:seen≠[]):IE cm k V seen=pt V k (nc (sd cm k)):=if_neg h
theorem LB.jv{H:U}{gO:List Int}{ld:D}(h:LB g l nx L H left gO ld dv){v:Nat}(a:H[v]? = some .jv):4<v/\∀q d n,ld = .fM q d 1 0 n->v≠q:=by
 have key:∀ {w:Nat} {o:Ob},H[w]? = some o->o≠.jv->v≠w:=λf i e=>i (by rw[e,f]at a;exact bX a);refine⟨?_,λq d n e=>?_⟩
 .have h0:=key h.h0 (by simp);obtain⟨_,h1⟩:=h.ct;have h1:=key h1 (by simp);have c:=key h.mY (by simp);obtain⟨_,_,b⟩:=h.arr;have b:=key b (by simp);have j:=key h.mZ (by simp);omega
 .rcases h.vw with⟨_,h1⟩|⟨_,w,k,_,h1,c⟩
  .rw[h1]at e;cases e
  .rw[h1]at e;cases e;exact key c (by simp)
theorem LB.start{dcl:D}(b:dcl = .sl 36 (L.map gT)\/(L = []/\dcl = .fX)):LB g l nx L [.row 43 0 g.cells,.row 168 0 (ke g l nx dcl .fX),.row 37 0 [.fX],.row 3 0 (cl f1 (upto L.length)),.row 37 0 [.fM 3 0 1 0 L.length]] (upto L.length) [] .fX dcl:=by
 have c:jm 5 dcl=true:=by
  rcases b with rfl|⟨rfl,rfl⟩
  .exact Ag (xB L)
  .rfl
 have d:(upto L.length).map (λk=>gt L k)=L:=by
  refine bC (by simp[pd]) λi h1 e=>?_;rw[List.getElem_map];have:(upto L.length)[i]'(by rw[pd];exact e)=(i:Int):=by simp[upto]
  rw[this,jb (by omega) (by omega)];simp
 refine⟨rfl,⟨_,rfl⟩,rfl,.inl ⟨rfl,rfl⟩,⟨[],rfl,by simp⟩,by rw[pd];rfl,λo a=>?_,?_⟩
 .rcases aw.1 a with rfl|a
  .show mT 5 _=true;simp
  .rcases aw.1 a with rfl|a
   .exact NY c rfl
   .rcases aw.1 a with rfl|a
    .rfl
    .rcases aw.1 a with rfl|a
     .exact ym _
     .rw[List.mem_singleton.1 a];show((jm 5 (.fM 3 0 1 0 L.length))&&true)=true;simp
 .rw[d];rcases b with h|h
  .exact .inl h
  .exact .inr (.inl h)
theorem LS.toLA{H0 H:U}{q rv:Nat}{st:p9}{gO:List Int}{ld:D}(h:LS H0 H q rv st left gO ld)(h0:H0[0]? = some (.row 43 0 g.cells))(l:1<q):LA g (H.set rv .dead) left gO ld/\jl (H.set rv .dead).length (H.set rv .dead)/\∀w o,H0[w]? = some o->(4<w\/w<=1)->w≠rv->w≠q->(H.set rv .dead)[w]? = some o:=by
 have k:=h.B';have key:∀ {w:Nat} {o:Ob},H[w]? = some o->w≠rv->(H.set rv .dead)[w]? = some o:=λf i=>by rw[aB (cu i)];exact f
 refine⟨⟨key (h.kp 0 _ h0 (.inr (by omega)) (by omega) (by omega)) (by omega),key h.mY (by omega),?_,?_,key h.mZ (by omega)⟩,?_,λw o h1 c b a=>key (h.kp w o h1 c b a) b⟩
 .rcases h.vw with h1|⟨h1,v,j,⟨c,_⟩,b,a⟩
  .exact .inl h1
  .exact .inr ⟨h1,v,j,c,b,key a λe=>by rw[e,h.rc]at a;cases a⟩
 .obtain⟨zs,d,h1⟩:=h.arr;exact⟨zs,d,key h1 (by omega)⟩
 .rw[ar];exact pG h.ok rfl
end
end Go.Proofs.YtmehofoficaelaaGreatDoor
namespace Go.Proofs.YtmehofoficaelaaGreatDoor
open Go Go.AL Classical
set_option maxRecDepth 10000
set_option maxHeartbeats 16000000
attribute [-simp] s7
theorem anY{n k:Nat}(h:k<n):(upto k++List.replicate (n-k) 0).set k (k:Int)=upto (k+1)++List.replicate (n-(k+1)) 0:=by rw[ID,dw _ _ (by rw[pd];omega),pd,bV,show n-k=(n-(k+1))+1 by omega,bn];simp
theorem aaI{H:U}{gO left:List Int}{N:Nat}{ld:D}(b:(gO = []/\ld = .fX)\/(gO≠[]/\∃v a,4<v/\ld = .fM v a 1 0 gO.length/\H[v]? = some (.row 3 a (cl f1 gO))))(f:(gO++left).Perm (upto N))(hN:N<=100000)(fV:jl H.length H) :
  Wf T 67 [ld] H (λd H'=>d = .tup []/\((outs N left = []/\ld = .fX)\/(outs N left≠[]/\∃v a,4<v/\ld = .fM v a 1 0 (outs N left).length/\H'[v]? = some (.row 3 a (cl f1 (outs N left)))))/\H'.length=H.length /\
   (∀w o,H[w]? = some o->(∀a n,ld≠.fM w a 1 0 n)->H'[w]? = some o)/\jl H'.length H'):=by
 have hs:=ama f;have hl:=congrArg List.length hs;rw[eu]at hl;rcases b with⟨rfl,rfl⟩|⟨h0,v,a,j,rfl,c⟩
 .refine Wf.mono V3 ?_;rintro _ H' ⟨rfl,rfl⟩;exact⟨rfl,.inl ⟨ay.1 (by rw[<-hl];rfl),rfl⟩,rfl,λw o h _=>h,fV⟩
 .have g:gO.length<=N:=by have:=f.length_eq;rw[aj,pd]at this;omega
  refine f160 (l:=gO) (t:=3) (ax.2 h0) (by omega) c ?_;rw[hs,hl];refine⟨rfl,.inr ⟨λe=>h0 (ay.1 (by rw[hl,e];rfl)),v,a,j,rfl,aL (jj c)⟩,ar,λw o h1 i=>?_,?_⟩
  .rw[aB (λe=>i a (outs N left).length (by rw[e]))];exact h1
  .rw[ar];exact pG fV (ym _)
theorem adh(g:fY)(hg:gN g)(l:List Pos)(hc:oP g l)(h0:0<l.length)(h9:l.length<=1000){L:List Cw}{dcl:D}(hd:dcl = .sl 36 (L.map gT)\/(L = []/\dcl = .fX))
  (hL:∀x∈L,x.ok) (hb:∀x∈L,∀r∈x.c.es,r.2<=4000) (h8:L.length<=100000) :
  Wf T 20 [dG g,gQ l,dcl] [] (Is (.tup (w9 (sW (jM g l (gu g l)) l.length (iY l.length) (cs L))))):=by
 have cn:=f52 g hg l hc h0
 have X:closed dcl=true:=by
  rcases hd with rfl|⟨rfl,rfl⟩
  .exact xB L
  .rfl
 have oy:cellsOf dcl=some [dcl]:=by
  rcases hd with rfl|⟨rfl,rfl⟩
  .rfl
  .rfl
 have uq:∀H,mK .slice dcl H=some (.i L.length):=λH=>by
  rcases hd with rfl|⟨rfl,rfl⟩
  .simp
  .rfl
 have hj:=λ(H:U) (dv:D) (L':List Cw) (old:D) (hd:CV H 1 L' dv) (fV:jl H.length H) lX hL hb h8=>adw g hg l hc h0 h9 (H:=H) (ck:=1) (L:=L') (old:=old) (dcl:=dv) hd fV lX hL hb h8;have cr:=aeo g hg l hc h0;obtain⟨nx,pA⟩:∃nx,gu g l=nx:=⟨_,rfl⟩;rw[pA]at cn hj cr ⊢;refine Yg IS ?_;simp[IS,X];refine gj.inl EN rfl rfl (by simp[EN]) rfl ?_;simp[EN,X];refine Yc (cn) ?_;simp[X,oy];(with_reducible repeat' first|refine Xk ?_<;>try simp[X,uq]|refine Xs ?_ ?_<;>intro h<;>(try intro M)<;>(try simp[h,X,uq])<;>try omega|refine Xg ?_|omega);simp[X,uq];(with_reducible repeat' first|refine Xk ?_<;>try simp[X,uq]|refine Xs ?_ ?_<;>intro h<;>(try intro M)<;>(try simp[h,X,uq])<;>try omega|refine Xg ?_|omega);refine fZ.s (by simp[X];rfl) ?_;refine fZ.e (0:Int) (λy=>[(1,gQ l),(2,dcl),(3,.ptr 0 0 0),(9,.ptr 1 0 0),(11,.ptr 2 0 0),(12,.ptr 4 0 0),(40,.i L.length),(41,.i y)]) (λy=>[.row 43 0 g.cells,.row 168 0 (ke g l nx dcl .fX),.row 37 0 [.fX],.row 3 0 (cl f1 (upto y.toNat++List.replicate (L.length-y.toNat) 0)),.row 37 0 [.fM 3 0 1 0 L.length]]) (λy=>0<=y/\y<=L.length) (λy=>(L.length-y).toNat) ?_ ?_
 .simp
 rintro y ⟨y0,y1⟩;dsimp only at y0 y1 ⊢
 by_cases Y:y<L.length
 .simp[Y];(with_reducible repeat' first|refine Xk ?_<;>try simp[Y]|refine Xs ?_ ?_<;>intro h<;>(try intro M)<;>(try simp[h,Y])<;>try omega|refine Xg ?_|omega);obtain⟨k,rfl⟩:∃k:Nat,y=k:=⟨y.toNat,by omega⟩;have C:k<L.length:=by omega
  refine⟨by rw[pd];simp;omega,by omega,by omega,LJ.i ((k:Int)+1) rfl ?_ rfl rfl l4⟩
  have hp:pt (upto k++List.replicate (L.length-k) 0) (k:Int) (k:Int)=upto (k+1)++List.replicate (L.length-(k+1)) 0:=by have e:=anY C;rw[cE,if_pos (by simp[pd];omega)]at e;exact e
  simp only[bF,show((k:Int)+1).toNat=k+1 by omega,hp]
 have x4:y=L.length:=by omega
 subst x4;simp;(with_reducible repeat' first|refine Xk ?_<;>try simp|refine Xs ?_ ?_<;>intro h<;>(try intro M)<;>(try simp[h])<;>try omega|refine Xg ?_|omega);rw[bV,eF,az];have Qu:=LB.start (g:=g) (l:=l) (nx:=nx) hd;obtain⟨Hi,Qs⟩:∃Hi,[Ob.row 43 0 g.cells,.row 168 0 (ke g l nx dcl .fX),.row 37 0 [.fX],.row 3 0 (cl f1 (upto L.length)),.row 37 0 [.fM 3 0 1 0 L.length]]=Hi:=⟨_,rfl⟩;rw[Qs]at Qu;have Qv:∀k:Int,0<=k->k<L.length->(gt L k).ok/\∀r∈(gt L k).c.es,r.2<=4000:=λk k0 k1=>⟨hL _ (gq k0 k1),hb _ (gq k0 k1)⟩;refine fZ.m ((Hi,[],upto L.length,[],.fX,dcl):U×List Nat×List Int×List Int×D×D) (λ_=>[(1,gQ l),(2,dcl),(3,.ptr 0 0 0),(9,.ptr 1 0 0),(11,.ptr 2 0 0),(12,.ptr 4 0 0)]) (λx=>x.1) (λx=>x.2.1) (λx=>LB g l nx L x.1 x.2.2.1 x.2.2.2.1 x.2.2.2.2.1 x.2.2.2.2.2/\(∀v∈x.2.1,x.1[v]? = some .jv)/\x.2.1.Nodup/\SI (jM g l nx) l.length (iY l.length) (cs L) x.2.2.1 x.2.2.2.1) (λx=>x.2.2.1.length) ?_ ?_ rfl Qs rfl rfl rfl
 rotate_left
 .exact⟨Qu,λv b=>(by cases b),.nil,by rw[<-wx L];exact SI.start⟩
 clear Qu Qs y0 y1 Y;rintro⟨Hc,ms,left,gO,ld,dv⟩ ⟨hB,Re,zx,hS⟩;dsimp only at hB Re zx hS ⊢;obtain⟨old,lz⟩:=hB.ct;have hr:=hS.rng;have g0:=hS.len;rw[wx]at g0;simp only[wx]at hr
 have Qy:∀x∈left.map (λk=>gt L k),x.ok:=λx I=>by obtain⟨k,C,rfl⟩:=ao.1 I;exact(Qv k (hr k C).1 (hr k C).2).1
 have Gd:∀x∈left.map (λk=>gt L k),∀r∈x.c.es,r.2<=4000:=λx I=>by obtain⟨k,C,rfl⟩:=ao.1 I;exact(Qv k (hr k C).1 (hr k C).2).2
 have zo:=acI hr;have pS:=hj Hc dv (left.map λk=>gt L k) old hB.cv hB.ok lz Qy Gd (by rw[List.length_map];omega);rw[zo]at pS;obtain⟨J,hJ⟩:∃J,mS (jM g l nx) l.length (iY l.length) (left.map λk=>gt (cs L) k)=J:=⟨_,rfl⟩;rw[hJ]at pS;simp;refine gj.kU rfl rfl pS ?_;rintro d H' hP;have E:=hB.agl hP
 have DE:∀v∈ms,H'[v]? = some .jv:=λv b=>hP.kp v _ (Re v b) λe=>by have:=Re v b;rw[e,lz]at this;cases this
 cases J with
 | v a ls=>
  obtain⟨x,rfl,I⟩:=hP.vd;obtain⟨QC,gE,Nc,tA,gU⟩:=hS.step hJ
  have RQ:cellsOf x=some [x]:=by
   rcases I with rfl|⟨_,v,s,rfl,_⟩
   .cases ls with
    | nil=>rfl
    | cons a r=>rfl
   .rfl
  simp;refine gj.w (by simp;rfl) ?_;refine gj.kU rfl rfl (adx RQ _) ?_;rintro _ H2 ⟨rfl,rfl⟩;simp;refine sZ.s (by simp;rfl) ?_;refine sZ.r (f:=124) (first:=[]) (cap:=[.ptr (H'.length+1) 0 0]) rfl (by simp) rfl rfl ?_;have e1:(H' ++ [Ob.row 89 0 [.i a,x],Ob.row 37 0 [x]]).length+1=H'.length+3:=by simp
  have Di:=jj E.mZ
  have DX:jm (H'.length+4) x=true:=by
   rcases I with rfl|⟨_,v,s,rfl,b,_⟩
   .exact Ag (by simp)
   .have:=jj b;simp;omega
  obtain⟨q,hq,DN,WT⟩:=E.toLS (R:=[.row 89 0 [.i a,x],.row 37 0 [x],.jv,.ia 1280 eS .ready]) (j:=3) rfl (λo S=>by
   rcases aw.1 S with rfl|S
   .show((jm (H'.length+4) (.i a))&&((jm (H'.length+4) x)&&true))=true;rw[DX];rfl
   .rcases aw.1 S with rfl|S
    .show((jm (H'.length+4) x)&&true)=true;rw[DX];rfl
    .rcases aw.1 S with rfl|S
     .rfl
     .rw[List.mem_singleton.1 S];show((jm (H'.length+4) (.ptr 2 0 0))&&((jm (H'.length+4) (.ptr 4 0 0))&&true))=true;simp
      omega)
  have n5:q<Hc.length/\1<q:=by
   rcases hq with rfl|⟨s,hq,_⟩
   .exact⟨jj hB.mY,by omega⟩
   .rcases hB.vw with⟨_,h⟩|⟨_,v,F5,_,h,b⟩
    .rw[h]at hq;cases hq
    .rw[h]at hq;cases hq;exact⟨jj b,by omega⟩
  have hHc:=jj hB.mZ
  have atM:ls.length<=left.length:=by have:=zV left.length ls (tA.imp λh e=>by omega) Nc;exact this
  show Wf T 124 [.iP ((H' ++ [Ob.row 89 0 [.i a,x],Ob.row 37 0 [x]]).length+1),.ptr (H'.length+1) 0 0] ((H' ++ [Ob.row 89 0 [.i a,x],Ob.row 37 0 [x]]) ++ [.jv,.ia 1280 eS .ready]) _;rw[e1,aJ];refine Wf.mono (adL (n:=H'.length+1) (x:=x) WT Nc tA (by omega) (by omega) (by omega) (by simp) l4 ?_) ?_
  .rcases I with h|⟨_,v,s,h,b,hN⟩
   .exact .inl h
   .have:=jj b;exact .inr ⟨v,s,h,ig b,by omega,by omega,by omega⟩
  rintro _ H3 ⟨tF,Qw,g1⟩;obtain⟨Dq,GJ,Nb⟩:=Qw.toLA (ig E.h0) n5.2
  have Rf:∀v∈(H'.length+2)::ms,(H3.set (H'.length+3) .dead)[v]? = some .jv:=λv b=>by
   rcases aw.1 b with rfl|b
   .exact Nb _ _ (by simp) (by omega) (by omega) (by omega)
   .have h1:=DE v b;have h2:=jj h1;obtain⟨K,h4⟩:=E.jv h1;refine Nb _ _ (ig h1) (.inl K) (by omega) ?_;rcases hq with e|⟨s,e,_⟩
    .omega
    .exact h4 _ _ _ e
  obtain⟨ZE,o8⟩:=E.ct;have M1:=Nb 1 _ (ig o8) (by omega) (by omega) (by omega);refine⟨eS,.ready,by rw[e1];exact Qw.rc,?_⟩;have zy:((H'.length+2)::ms).Nodup:=cL.2 ⟨λh=>by have:=jj (DE _ h);omega,zx⟩;obtain⟨Hs,Qt⟩:∃Hs,H3.set (H'.length+3) .dead=Hs:=⟨_,rfl⟩;rw[Qt]at Dq GJ Rf M1;have uo:=M1;unfold ke at uo;simp at uo;show oA (z6 (St.mk _ (H3.set ((H' ++ [Ob.row 89 0 [.i a,x],Ob.row 37 0 [x]]).length+1) .dead) _ _) .ready) _ .mk;rw[e1,Qt];clear Qt Nb g1 Qw WT;obtain⟨B,mc⟩:∃B,mC left ls=B:=⟨_,rfl⟩;obtain⟨R7,rX⟩:∃R7,(gO++ls.reverse.map λk=>gt left k)=R7:=⟨_,rfl⟩;rw[mc,rX]at Dq QC;rw[mc]at gE;have WQ:=Dq.mZ;have Df:∀d sd,(Ob.row 168 0 [.i g.size,.sl 1 (g.next.map fI),dI g.jn,.sl 3 (g.kinds.map Kind.cells),.i g.gD,.b g.oi,dN 4 Clause.cells g.clauses,.i g.blocked,.i g.uY,gQ l,.sl 1 (nx.map fN),d,sd]) = .row 168 0 (ke g l nx d sd):=λd sd=>by unfold ke;simp
  have n9:=CB.start (L:=L) (left:=B) M1 GJ;simp[uo,WQ];refine fZ.s (by simp[uo];rfl) ?_;rw[Df];refine fZ.kg ((H'.length+2)::ms) false ((Hs.set 1 (.row 168 0 (ke g l nx .fX ZE)),0,.fX):U×Nat×D) (λy=>[(1,gQ l),(2,dcl),(3,.ptr 0 0 0),(9,.ptr 1 0 0),(11,.ptr 2 0 0),(12,.ptr 4 0 0),(76,.fM 3 0 1 0 B.length),(77,.i B.length),(78,.i y.2.1)]) (λy=>y.1) (λy=>y.2.1<=B.length/\CB g l nx L B ZE Hs y.1 y.2.1 y.2.2) (λy=>B.length-y.2.1) ?_ (by simp) (by first|rfl|(simp[iI];done)|(simp[*];done)) rfl rfl rfl ?_
  .exact⟨by simp,n9⟩
  rintro⟨G,y,dg⟩ ⟨Y,hG⟩;dsimp only at Y hG ⊢
  by_cases W:y<B.length
  .obtain⟨zs,hz,kZ⟩:=Dq.arr;have K:=hG.kp 3 _ kZ (by omega);obtain⟨k,C⟩:∃k,gt B (y:Int)=k:=⟨_,rfl⟩
   have Dx:(cl f1 B++zs)[y]? = some (.i k):=by rw[ah (by rw[rh];omega),yX,av,List.getElem?_eq_getElem W,<-C,AZ W];rfl
   have Gs:=QC.rng k (by rw[<-C];exact gq (by omega) (by omega));rw[wx]at Gs;obtain⟨pp,r8,nk⟩:=CV.ix (H:=[]) (ck:=0) (hd.elim .inl λh=>.inr (.inl h)) Gs.1 Gs.2;have nk:=λH'=>nk H' λv o b=>by simp at b
   have I:=(Qv k Gs.1 Gs.2).1;have ka:(gT (gt L k)).length=36:=Fl.len _;have nh:(gT (gt L k)).take 36=gT (gt L k):=af (by omega);have xO:gw (gT (gt L k))=true:=Fl.cl _;have O:=hG.ct;unfold ke at O;simp at O;have tm:∀R:U,(G++R)[1]? = _:=λR=>ig O;have Dy:∀(R:U) (h:1<(G++R).length),(G++R)[1]'h=_:=λR h=>bX ((List.getElem?_eq_getElem h).symm.trans (tm R));have DA:=jj O;have nH:∀(R:U) (o:Ob),(G++R).set 1 o=G.set 1 o++R:=λR o=>aO _ _ DA;have g1:=hG.le;have lM:=jj Dq.mZ;rcases hG.dv with⟨rfl,rfl⟩|⟨hy0,v,s,b,rfl,DR⟩
   .simp[W,K,Dx,r8,nk,tm,Dy,O,nH,ka,nh];(with_reducible repeat' first|refine Xk ?_<;>try simp[W,K,Dx,r8,nk,tm,Dy,O,nH,ka,nh]|refine Xs ?_ ?_<;>intro h<;>(try intro M)<;>(try simp[h,W,K,Dx,r8,nk,tm,Dy,O,nH,ka,nh])<;>try omega|refine Xg ?_|omega);have hF:=(hG.more (o:=.row 72 0 (gT (gt L k))) (zX xO)).abo W;rw[nH,aJ,aj,aV,show gt B 0=k from C]at hF;rw[Df];exact LJ.i (_,1,.fM (G.length+1) 0 36 0 1) (by simp) rfl rfl rfl (pI hF)
   .have iG:=jj DR;have od:v≠1:=by omega
    have zI:∀R:U,(G++R)[v]? = _:=λR=>ig DR;have BC:∀(R:U) (o:Ob),(G++R).set v o=G.set v o++R:=λR o=>aO _ _ iG;have gS:∀(o:Ob) (R:U),(G.set v o++R)[1]? = _:=λo R=>ig ((aB od).trans O);have gB:∀(o:Ob) (R:U) (h:1<(G.set v o++R).length),(G.set v o++R)[1]'h=_:=λo R h=>bX ((List.getElem?_eq_getElem h).symm.trans (gS o R));have sS:∀(o o':Ob) (R:U),(G.set v o++R).set 1 o'=(G.set v o).set 1 o'++R:=λo o' R=>aO _ _ (by rw[ar];exact DA);have gG:(cl gT ((B.take y).map λk=>gt L k)).length=y*36:=by rw[rh,List.length_map,aK];congr 1;omega
    have lz:(cl gT ((B.take y).map λk=>gt L k)).take (y*36)=cl gT ((B.take y).map λk=>gt L k):=af (by omega);have hyL:y<=100000:=by omega
    simp[W,K,Dx,r8,nk,tm,Dy,O,nH,ka,nh,zI,BC,gS,gB,sS,gG,lz];(with_reducible repeat' first|refine Xk ?_<;>try simp[W,K,Dx,r8,nk,tm,Dy,O,nH,ka,nh,zI,BC,gS,gB,sS,gG,lz]|refine Xs ?_ ?_<;>intro h<;>(try intro M)<;>(try simp[h,W,K,Dx,r8,nk,tm,Dy,O,nH,ka,nh,zI,BC,gS,gB,sS,gG,lz])<;>try omega|refine Xg ?_|omega);have hF:=(hG.abp (by omega) W b DR).more (o:=.row 72 0 (gT (gt L k))) (zX xO);rw[C]at hF;rw[Df,<-List.map_take,lz];exact LJ.i (_,y+1,.fM v (s+1) 36 0 (y+1)) (by simp) rfl rfl rfl (pI hF)
  .have x4:y=B.length:=by omega
   subst x4;simp
   exact LM.i (G,(H'.length+2)::ms,B,R7,tF,dg) rfl rfl rfl rfl ⟨gE,hG.toLB Dq,λv b=>hG.kp v _ (Rf v b) (λe=>by
    have:=Rf v b;rw[e,M1]at this
    cases this),zy,QC⟩
 | none=>
  have b:d=_:=hP.vd;subst b;have hE:=hS.done hJ λa ls h=>by cases h
  have Di:=jj E.mZ;have F:∀R:U,(H'++R)[2]? = some (.row 37 0 [ld]):=λR=>ig E.mY;have Rk:jl (H' ++ [Ob.row 89 0 [.i 0,.fX]]).length (H' ++ [Ob.row 89 0 [.i 0,.fX]]):=HK E.ok rfl λo S=>by rw[List.mem_singleton.1 S];rfl
  have RN:(gO = []/\ld = .fX)\/(gO≠[]/\∃v s,4<v/\ld = .fM v s 1 0 gO.length/\(H' ++ [Ob.row 89 0 [.i 0,.fX]])[v]? = some (.row 3 s (cl f1 gO))):=by
   rcases E.vw with h|⟨h1,v,s,h2,K,h4⟩
   .exact .inl h
   .exact .inr ⟨h1,v,s,h2,K,ig h4⟩
  have Ry:=aaI RN (N:=L.length) (left:=left) (by have:=hS.pm;rwa [wx]at this) h8 Rk;simp[F];(with_reducible repeat' first|refine Xk ?_<;>try simp[F]|refine Xs ?_ ?_<;>intro h<;>(try intro M)<;>(try simp[h,F])<;>try omega|refine Xg ?_|omega);refine gj.w (by simp;rfl) ?_;refine gj.kU rfl rfl Ry ?_;rintro _ A ⟨rfl,DU,Xt,zr,p'⟩;have zy:∀v∈ms,A[v]? = some .jv:=λv b=>zr v _ (ig (DE v b)) λs n e=>(E.jv (DE v b)).2 _ _ _ e rfl
  have zw:A[2]? = some (.row 37 0 [ld]):=by
   refine zr 2 _ (F _) λs n e=>?_;rcases DU with⟨_,h⟩|⟨_,v,F5,h1,h,_⟩
   .rw[h]at e;cases e
   .rw[h]at e;cases e;omega
  obtain⟨sr,Xc,sN⟩:=hP.ct;obtain⟨ow,P,Q,sN,g'⟩:=sN rfl
  have XF:∀w:Nat,w<5->∀s n,ld≠.fM w s 1 0 n:=λw hw s n e=>by
   rcases DU with⟨_,h⟩|⟨_,v,F5,h1,h,_⟩
   .rw[h]at e;cases e
   .rw[h]at e;cases e;omega
  have o6:=zr 1 _ (ig Xc) (XF 1 (by omega));have o2:=zr 0 _ (ig E.h0) (XF 0 (by omega))
  have Rv:=(sN.app [Ob.row 89 0 [.i 0,.fX]]).aha (H':=A) λv o b h5=>zr v o b λs n e=>by
   rcases hB.vw with⟨_,h⟩|⟨_,w,F5,h1,h,h2⟩
   .rw[h]at e;cases e
   .rw[h]at e;cases e;exact h5 (g' _ _ h2 (by omega))
  clear sN g' Xc;obtain⟨cm,QM⟩:∃cm,(left.map λk=>gt (cs L) k)=cm:=⟨_,rfl⟩;rw[QM]at hJ Rv;have Qh:=Yj hJ;have o0:=@agj _ _ _ _ hJ
  have GK:∀j:Int,0<=j->j<l.length->(gF cm j).length=1:=λj j0 j1=>by
   obtain⟨q1,q2⟩:=Qh.2 j j0 j1;have:=F7 (cl:=cm) (i:=j);rw[q2]at this;have K:¬ 1<(gF cm j).length:=λh=>by cases this.1 h
   have h4:(gF cm j).length≠0:=λh=>q1 (ML.1 h);omega
  have uo:=o6;unfold ke at uo;simp at uo;have nS:∀R:U,(A++R)[1]? = _:=λR=>ig uo;have QJ:∀(R:U) (h:1<(A++R).length),(A++R)[1]'h=_:=λR h=>bX ((List.getElem?_eq_getElem h).symm.trans (nS R));simp[zw,nS,QJ];(with_reducible repeat' first|refine Xk ?_<;>try simp[zw,nS,QJ]|refine Xs ?_ ?_<;>intro h<;>(try intro M)<;>(try simp[h,zw,nS,QJ])<;>try omega|refine Xg ?_|omega);refine fZ.kg ms false ((0,List.replicate l.length (0,0),[]):Int×List fO×U) (λy=>[(1,gQ l),(3,.ptr 0 0 0),(11,.ptr 2 0 0),(20,.fM A.length 0 2 0 l.length),(108,.fM sr 0 1 0 l.length),(109,.i l.length),(110,.i y.1)]) (λy=>A++(.row 86 0 (AL.cl fS y.2.1)::y.2.2)) (λy=>(0<=y.1/\y.1<=l.length)/\y.2.1.length=l.length/\∀j:Int,0<=j->j<y.1->gt y.2.1 j=nc (sd cm j)) (λy=>(l.length-y.1).toNat) ?_ (by simp) (by first|rfl|(simp[iI];done)|(simp[*];done)) rfl rfl rfl ?_
  .exact⟨by simp,by simp,λj j0 j1=>absurd j1 (by dsimp only;omega)⟩
  rintro⟨k,V,R⟩ ⟨⟨k0,k1⟩,hV,zk⟩;dsimp only at k0 k1 hV zk ⊢;have o5:∀R:U,(A++R)[sr]? = some (.row 170 0 ((List.range l.length).map λj=>D.gx (P j))):=λR=>ig Rv.row
  by_cases C:k<l.length
  .obtain⟨p1,_⟩:=Rv.mp k.toNat (by omega);rw[show((k.toNat:Nat):Int)=k by omega]at p1;obtain⟨p,kQ⟩:∃p,P k.toNat=p:=⟨_,rfl⟩;obtain⟨q,xY⟩:∃q,Q k.toNat=q:=⟨_,rfl⟩;rw[kQ,xY]at p1;have oC:∀R:U,(A++R)[p]? = some (.map KS (iM q 0 (gF cm k))):=λR=>ig p1;have h1:=GK k k0 C;simp[C,o5,kQ,oC,k0];(with_reducible repeat' first|refine Xk ?_<;>try simp[C,o5,kQ,oC,k0]|refine Xs ?_ ?_<;>intro h<;>(try intro M)<;>(try simp[h,C,o5,kQ,oC,k0])<;>try omega|refine Xg ?_|omega);refine fZ.kg ms false (([],[]):List Nat×U) (λz=>[(1,gQ l),(3,.ptr 0 0 0),(11,.ptr 2 0 0),(20,.fM A.length 0 2 0 l.length),(21,.i k),(108,.fM sr 0 1 0 l.length),(109,.i l.length),(110,.i k),(116,.ptr (A.length+(R.length+1)) 0 0)]) (λz=>A++(.row 86 0 (AL.cl fS (IE cm k V z.1))::(R ++ .iX (.gx p) (gF cm k).length z.1::z.2))) (λz=>z.1.Nodup/\∀t∈z.1,t<(gF cm k).length) (λz=>(gF cm k).length-z.1.length) ?_ (by simp) (by first|rfl|(simp[iI];done)|(simp[*];done)) rfl rfl rfl ?_
   .exact⟨.nil,λ_ h=>(by cases h)⟩
   rintro⟨seen,Z⟩ ⟨mA,gE⟩;dsimp only at mA gE ⊢;simp;refine tX.at (m:=p) (since:=(gF cm k).length) (seen:=seen) (kk:=KS) (es:=iM q 0 (gF cm k)) (by simp) (by simp[oC]) (by simp) (λjc=>?_) λt kv dv he hi=>?_
   .have jc:∀t,t<(gF cm k).length->t∈seen:=by simpa using jc
    have nq:seen≠[]:=λe=>by have:=jc 0 (by omega);rw[e]at this;cases this
    rw[aa1 nq];simp;refine fQ ?_;refine LJ.i (k+1,pt V k (nc (sd cm k)),R ++ .iX (.gx p) (gF cm k).length seen::Z) (by simp) (by simp) rfl rfl ?_;refine⟨by dsimp only;omega,im,by rw[iH k0 (by omega)];exact hV,λi' h0 h1=>?_⟩;dsimp only at h1 ⊢;rw[pq k0 (by omega) h0]
    by_cases e:i'=k
    .rw[if_pos e,e]
    .rw[if_neg e];exact zk i' h0 (by omega)
   .rw[u4]at he;obtain⟨y,tB,G2⟩:=ak.1 he;cases G2;have o7:=Ib mA gE (ae.1 tB).1 hi;have js:(iM q 0 (gF cm k))[t]? = some (lj y.1,oI (q t) y.2):=by rw[u4,tB];simp
    have e:(A++(Ob.row 86 0 (AL.cl fS (IE cm k V seen))::(R++Ob.iX (.gx p) (gF cm k).length seen::Z))).set (A.length+(R.length+1)) (.iX (.gx p) (gF cm k).length (seen ++ [t]))=A++(Ob.row 86 0 (AL.cl fS (IE cm k V seen))::(R++Ob.iX (.gx p) (gF cm k).length (seen ++ [t])::Z)):=by simp
    rw[e]
    have uv:(gF cm k).length-(seen ++ [t]).length<(gF cm k).length-seen.length:=by have:=o7.2.2;rw[aj,aV]at this ⊢;omega
    have RA:t=0:=by have:=(ae.1 tB).1;omega
    have sM:seen = []:=aT.2 λu hu=>by have:=gE u hu;rw[show u=t by omega]at hu;exact hi hu
    have Y:y.1=nc (sd cm k):=WE (by
     obtain⟨z,hz⟩:=fw.1 h1;rw[hz,RA]at tB;cases tB
     exact hz)
    subst sM;obtain⟨⟨r1,r2⟩,ls⟩:=y;dsimp only at Y js;have By:=Pm (l:=V) (n:=k) r1 r2;simp[oC,js,h1,By];(with_reducible repeat' first|refine Xk ?_<;>try simp[oC,js,h1,By]|refine Xs ?_ ?_<;>intro h<;>(try intro M)<;>(try simp[h,oC,js,h1,By])<;>try omega|refine Xg ?_|omega);refine LJ.i ([] ++ [t],Z ++ [.row 86 0 [.i r1,.i r2]]) (by simp) (by rw[aa1 (by simp),<-Y];simp[h1]) rfl rfl ⟨uv,o7.1,o7.2.1⟩
  .have vj:k=l.length:=by omega
   subst vj;have Xa:cm=cs (left.map λk=>gt L k):=by rw[<-QM,zo]
   have Qx:∀x∈left.map (λk=>gt L k),x.full:=λx I=>⟨Qy x I,λ_=>by
    have:=Qh.1 x.c (by rw[Xa];exact ao.2 ⟨x,I,rfl⟩);unfold iY at this;rw[Bool.and_eq_true]at this
    exact(Im this.1).2.2⟩
   have zl:V=yy (cs L) left l.length:=Qe (by rw[Ir];exact hV) λj j0 j1=>by rw[zk j j0 (by omega),aaK _ _ j0 (by omega),QM]
   have Gh:∀j:Int,0<=j->j<V.length->0<=(gt V j).2/\(gt V j).2<=4000:=λj j0 j1=>by
    rw[hV]at j1;rw[zk j j0 j1];have hm:=C' (Qh.2 j j0 j1).1;have h5:=o0 j0 j1 _ hm;refine⟨?_,?_⟩
    .unfold ln at h5;simp only[decide_eq_true_eq]at h5;rcases h5 with e|e
     .rw[e];decide
     .exact e.2
    .obtain⟨c,hc,h6,h7⟩:=sf.1 hm;rw[<-h7];rw[Xa]at hc;obtain⟨x,I,rfl⟩:=ao.1 hc;obtain⟨_,i0,i1⟩:=Cw.Wv (Qx x I) h6;exact Gd x I _ (gq (by omega) i1)
   have Vf:=cr V hV Gh;rw[zl]at Vf;have o1:∀R:U,(A++R)[0]? = some (.row 43 0 g.cells):=λR=>ig o2;simp[o1];refine gj.rq rfl rfl Vf (by simp[<-zl,hV]) (λ_=>by simp[flat,tb]) (λ_=>by simp) ?_;rintro n hn;have F:∀R:U,(A++R)[2]? = some (.row 37 0 [ld]):=λR=>ig zw;obtain⟨Hk,k1,k2,k3⟩:=R2 ms (A++Ob.row 86 0 (AL.cl fS V)::R) zx λv b=>ig (zy v b)
   have rY:∀d,leave 0 0 Hk d=(gd (λ_=>none) Hk 40 d,[]):=λd=>R5 λe=>by rw[e,aj]at k2;simp at k2
   have n7:Hk[A.length]? = some (.row 86 0 (AL.cl fS V)):=by rw[k3 _ λh=>by have:=jj (zy _ h);omega];simp
   have Xv:gd (λ_=>none) Hk 39 ld=dN 1 f1 (outs L.length left):=by
    rcases DU with⟨e,rfl⟩|⟨h1,v,s,_,rfl,b⟩
    .rw[e];rfl
    .have RJ:=(k3 v λh=>by rw[zy v h]at b;cases b).trans (ig b);simp[RJ]
     cases hz:outs L.length left with
     | nil=>exact absurd hz h1
     | cons a r=>rfl
   by_cases vm:n<0
   .have hR:sW (jM g l nx) l.length (iY l.length) (cs L)=(some (yy (cs L) left l.length),outs L.length left):=by unfold sW;rw[hE,if_pos ⟨rfl,hn.1 vm⟩,wx]
    rw[hR,<-zl];have xT:¬ 0<=n:=by omega
    simp[xT,F];(with_reducible repeat' first|refine Xk ?_<;>try simp[xT,F]|refine Xs ?_ ?_<;>intro h<;>(try intro M)<;>(try simp[h,xT,F])<;>try omega|refine Xg ?_|omega);simp[k1,rY,n7,Xv,w9,<-hV]
   .have hR:sW (jM g l nx) l.length (iY l.length) (cs L)=(none,outs L.length left):=by unfold sW;rw[hE,if_neg (λh=>vm (hn.2 h.2)),wx]
    rw[hR];have xT:0<=n:=by omega
    simp[xT,F];(with_reducible repeat' first|refine Xk ?_<;>try simp[xT,F]|refine Xs ?_ ?_<;>intro h<;>(try intro M)<;>(try simp[h,xT,F])<;>try omega|refine Xg ?_|omega);simp[k1,rY,Xv,w9]
 | AF=>
  have b:d=_:=hP.vd;subst b;have hE:=hS.done hJ λa ls h=>by cases h
  have Di:=jj E.mZ;have F:∀R:U,(H'++R)[2]? = some (.row 37 0 [ld]):=λR=>ig E.mY;have Rk:jl (H' ++ [Ob.row 89 0 [.i 0,.fX]]).length (H' ++ [Ob.row 89 0 [.i 0,.fX]]):=HK E.ok rfl λo S=>by rw[List.mem_singleton.1 S];rfl
  have RN:(gO = []/\ld = .fX)\/(gO≠[]/\∃v s,4<v/\ld = .fM v s 1 0 gO.length/\(H' ++ [Ob.row 89 0 [.i 0,.fX]])[v]? = some (.row 3 s (cl f1 gO))):=by
   rcases E.vw with h|⟨h1,v,s,h2,K,h4⟩
   .exact .inl h
   .exact .inr ⟨h1,v,s,h2,K,ig h4⟩
  have Ry:=aaI RN (N:=L.length) (left:=left) (by have:=hS.pm;rwa [wx]at this) h8 Rk;simp[F];(with_reducible repeat' first|refine Xk ?_<;>try simp[F]|refine Xs ?_ ?_<;>intro h<;>(try intro M)<;>(try simp[h,F])<;>try omega|refine Xg ?_|omega);refine gj.w (by simp;rfl) ?_;refine gj.kU rfl rfl Ry ?_;rintro _ A ⟨rfl,DU,Xt,zr,p'⟩;have zy:∀v∈ms,A[v]? = some .jv:=λv b=>zr v _ (ig (DE v b)) λs n e=>(E.jv (DE v b)).2 _ _ _ e rfl
  have zw:A[2]? = some (.row 37 0 [ld]):=by
   refine zr 2 _ (F _) λs n e=>?_;rcases DU with⟨_,h⟩|⟨_,v,F5,h1,h,_⟩
   .rw[h]at e;cases e
   .rw[h]at e;cases e;omega
  obtain⟨Hk,k1,k2,k3⟩:=R2 ms A zx zy;simp[zw];(with_reducible repeat' first|refine Xk ?_<;>try simp[zw]|refine Xs ?_ ?_<;>intro h<;>(try intro M)<;>(try simp[h,zw])<;>try omega|refine Xg ?_|omega);simp[k1]
  have rY:∀d,leave 0 0 Hk d=(gd (λ_=>none) Hk 40 d,[]):=λd=>R5 λe=>by rw[e,Xt]at k2;simp at k2
  have hR:sW (jM g l nx) l.length (iY l.length) (cs L)=(none,outs L.length left):=by unfold sW;rw[hE,if_neg (λh=>by cases h.1),wx]
  rw[hR];rcases DU with⟨e,rfl⟩|⟨h1,v,s,_,rfl,b⟩
  .simp[rY,w9,e];rfl
  .have RJ:=(k3 v λh=>by rw[zy v h]at b;cases b).trans b;simp[rY,w9,RJ]
   cases hz:outs L.length left with
   | nil=>exact absurd hz h1
   | cons a r=>rfl
end Go.Proofs.YtmehofoficaelaaGreatDoor
namespace Go.Proofs.YtmehofoficaelaaGreatDoor
open Go Go.AL Classical
theorem kn.ln{A:l6}{v:List fO}{i:Int}(a:A.ov i=true->1<=A.rs i/\A.rs i<=3)(h:kn A v i):ln (gt v i)=true:=by
 unfold Proofs.YtmehofoficaelaaGreatDoor.ln;rw[decide_eq_true_iff];rcases h with⟨o,e⟩|⟨_,⟨n,h1,e,_⟩|⟨n,h1,e,_⟩|⟨e,_⟩⟩
 .have:=a o;rw[e]
  by_cases b:A.rs i=2
  .exact .inl (by rw[b])
  .exact .inr im
 .rw[e];exact .inr ⟨.inl rfl,by dsimp only;omega⟩
 .rw[e];exact .inr ⟨.inr rfl,by dsimp only;omega⟩
 .exact .inl e
theorem XJ{V:List fO}{c:gA}:tv V c=true↔xi V (iY V.length) c:=by
 unfold tv xi;rw[Bool.and_eq_true,decide_eq_true_iff];refine and_congr_right λ_=>⟨λh i hi=>?_,λh i i0 a=>h i ?_⟩
 .unfold jC at hi;rw[decide_eq_true_iff]at hi;exact h i hi.1 hi.2
 .unfold jC;exact decide_eq_true ⟨i0,a⟩
theorem abq{n:Int}{c:gA}(h:iY n c=true)(i:Int)(a:jC c i=true):0<=i/\i<n:=by unfold iY at h;rw[Bool.and_eq_true,decide_eq_true_iff]at h;have:=Im h.1;unfold jC at a;rw[decide_eq_true_iff]at a;omega
noncomputable def xm(V:List fO):gA:=⟨0,0,V.length,V,kj V⟩
structure E7(A:l6)(n:Nat)(V:List fO):Prop where
 len:V.length=n
 gy:∀i:Int,0<=i->i<n->∀k∈gt A.nx i,0<=k/\k<n
 hV:∀i:Int,0<=i->i<n->kn A V i
 rC:∀i:Int,0<=i->i<n->ln (gt V i)=true
end Go.Proofs.YtmehofoficaelaaGreatDoor
namespace Go.Proofs.YtmehofoficaelaaGreatDoor
open Go Go.AL Classical
section
variable{A:l6}{n:Nat}{V:List fO}{cl:List gA}
theorem E7.uniq(h:E7 A n V){v:List fO}(hl:v.length=n)(a:∀k:Int,0<=k->k<n->kn A v k):v=V:=
 Qe (hl.trans h.len.symm) λj j0 j1=>agO (S:=λi=>0<=i/\i<n) (λi hi k b=>h.gy i hi.1 hi.2 k b) (λi hi=>a i hi.1 hi.2) (λi hi=>h.hV i hi.1 hi.2) j ⟨j0,by omega⟩
theorem anN(h:E7 A n V){ad:gA->Bool}{v:List fO}{o:List Int}(hs:sW A n ad cl=(some v,o)):v=V:=by
 unfold sW at hs;split at hs
 .rename_i a;cases hs;exact h.uniq (Ir _ _ _) a.2
 .cases hs
theorem anM(h:E7 A n V)(d:∀i:Int,0<=i->i<n->∃c∈cl,tv V c=true/\jC c i=true):sW A n (iY n) cl=(some V,(upto cl.length).filter λk => !tv V (gt cl k)):=by
 have b:=h.len;subst b
 obtain⟨L,h1,p,_,m⟩:=aaJ h.gy h.hV h.rC (λc d i hi=>abq d i hi) (cl.length+1) (upto cl.length) (by rw[pd];omega) (λk a=>iS.1 a) (λi i0 g=>by
  obtain⟨c,q1,q2,q3⟩:=d i i0 g;obtain⟨k,k0,k1,rfl⟩:=vL.1 q1
  exact⟨k,iS.2 ⟨k0,k1⟩,XJ.1 q2,q3⟩) (λk k0 k1 _=>iS.2 ⟨k0,k1⟩)
 have l:Cf A V.length (iY V.length) cl=(L,.none):=h1
 have f:yy cl L V.length=V:=Qe (Ir _ _ _) λj j0 j1=>by rw[Ir]at j1;rw[aaK _ _ j0 j1,m j j0 j1]
 unfold sW;rw[l,f,if_pos ⟨rfl,h.hV⟩];congr 1;refine List.filter_congr λk a=>?_;rw[iS]at a;have:=p k;rw[<-XJ]at this
 cases e:tv V (gt cl k)with
 | true=>
  rw[e]at this;simp[this.2 ⟨a,rfl⟩]
 | false=>
  rw[e]at this;have o:k ∉ L:=λa=>by have:=(this.1 a).2;cases this
  simp[o]
end
end Go.Proofs.YtmehofoficaelaaGreatDoor
namespace Go.Proofs.YtmehofoficaelaaGreatDoor
open Go Go.AL Classical
set_option maxRecDepth 10000
set_option maxHeartbeats 8000000
theorem aep(g:fY)(hg:gN g)(p:Pos)(v:ij g p):Wf T 51 [dG g,dP p,.i 40] [] (Ey (λx:Bool×List Pos=>.agg [if x.1 then gQ x.2 else .fX,.i (if x.1 then 0 else 2)]) (λx=>x.1=true->IL g x.2/\x.2.length<=40)):=by
 have P:=v.small hg;refine Yz EY (kh 62 [6,7] (iO 34 [5] EY.body)) ?_;simp[EY,iO,kh,mN,mQ,nf,lK];refine fZ.fz [3,4] rfl ?_;refine fZ.e (([p],[p]):List Pos×List Pos) (λy=>[(2,.i 40),(3,.ptr 0 0 0),(6,.ptr 2 0 0),(7,gQ y.1),(8,gQ y.2)]) (λy=>[.row 43 0 g.cells,.row 46 0 p.cells,.row 123 0 [.fX,.i 0],.dead,.dead]) (λy=>LC g p y.1 y.2/\y.1.length<=40) (λy=>(81-y.1.length)*2+(if y.2 = []then 0 else 1)) ?_ ?_
 .refine⟨⟨λi h1 s=>by simp at s;omega,by simpa using v,by simp,by simp,by simp,by simp,by simp⟩,by simp⟩
 rintro⟨c,last⟩ ⟨d,B⟩;have u:=d.len;have F:=d.agC;dsimp only at d u F B ⊢;simp;refine jU ?_ ?_<;>intro h
 .refine fZ.e ((0,0,[]):Int×Nat×List Pos) (λy=>[(2,.i 40),(3,.ptr 0 0 0),(6,.ptr 2 0 0),(7,gQ c),(8,gQ last),(9,.fM 5 y.2.1 5 0 y.2.2.length),(10,.i y.1)]) (λy=>[.row 43 0 g.cells,.row 46 0 p.cells,.row 123 0 [.fX,.i 0],.dead,.dead,.row 46 y.2.1 (cl Pos.cells y.2.2)]) (λy=>0<=y.1/\y.1<=last.length/\(∀m,m∈y.2.2↔∃q∈last.take y.1.toNat,qy g q m)/\y.2.2.length<=y.1.toNat*4000000000) (λy=>last.length-y.1.toNat) ?_ ?_
  .simp
  rintro⟨i,K,nx⟩ ⟨i0,H,o,G⟩;dsimp only at i0 H o G ⊢;simp;refine jU ?_ ?_<;>intro h
  .have f:=d.ok _ (d.sub _ (gq i0 ‹_›));have Xz:=zU hg f;refine Yt (f60 g hg _ f) ?_;simp;refine fQ ?_;refine LJ.e (i+1,K+1,nx++iJ g (gt last i)) ?_;dsimp only;refine⟨by omega,by omega,by omega,λm=>?_,?_⟩
   .rw[List.mem_append,o,BP,jd i0 ‹_›];simp only[List.mem_append,List.mem_singleton];constructor
    .rintro(⟨q,a,b⟩|a)
     .exact⟨q,.inl a,b⟩
     .exact⟨_,.inr rfl,a⟩
    .rintro⟨q,a|rfl,b⟩
     .exact .inl ⟨q,a,b⟩
     .exact .inr b
   .rw[aj,show(i+1).toNat=i.toNat+1 by omega,cA];omega
  .rw[kW (by omega)]at o
   have C:∀q∈nx,ij g q:=λq f=>by obtain⟨r,I,n⟩:=(o q).1 f;exact Sy hg (d.ok r (d.sub r I)) n
   refine Yc (V4 nx (by omega) (λq f=>(C q f).small hg)) ?_;simp;have O:=Ox nx;have E:=kL.nodup (Cd nx);have t:∀q,q∈kz nx↔∃r∈last,qy g r q:=λq=>by rw[vS,o]
   have A:∀q∈kz nx,Small q:=λq f=>(C q (vS.1 f)).small hg;generalize hN:kz nx=N at *;refine fZ.e ((0,0,[]):Int×Nat×List Pos) (λy=>[(2,.i 40),(3,.ptr 0 0 0),(6,.ptr 2 0 0),(7,gQ c),(8,.fM 6 y.2.1 5 0 y.2.2.length),(9,gQ N),(11,.i y.1)]) (λy=>[.row 43 0 g.cells,.row 46 0 p.cells,.row 123 0 [.fX,.i 0],.dead,.dead,.dead,.row 46 y.2.1 (cl Pos.cells y.2.2)]) (λy=>0<=y.1/\y.1<=N.length/\(∀m,m∈y.2.2↔m∈N.take y.1.toNat/\m ∉ c)/\y.2.2.Nodup/\y.2.2.length<=y.1.toNat) (λy=>N.length-y.1.toNat) ?_ ?_
   .simp
   rintro⟨j,gm,l⟩ ⟨j0,j1,j2,j3,j4⟩;dsimp only at j0 j1 j2 j3 j4 ⊢;simp;refine jU ?_ ?_<;>intro h
   .refine Yc (f27 c (gt N j) (by omega) (λq f=>(d.ok q f).small hg) (A _ (gq j0 ‹_›)) d.Ai) ?_;simp
    have w:pk c (gt N j)<0↔gt N j ∉ c:=by
     by_cases n:gt N j∈c
     .have:=F1 n;simp[n];omega
     .rw[Wd n];simp[n]
    refine jU ?_ ?_<;>intro h
    .refine LJ.e (j+1,gm+1,l ++ [gt N j]) ?_;dsimp only
     have D:gt N j ∉ l:=λn=>by have:=(j2 _).1 n;obtain⟨k,Q,e⟩:=dH.1 this.1;refine bG.1 E k j.toNat (by omega) (by omega) (by omega) ?_;rw[e,jb j0 ‹_›]
     refine⟨by omega,by omega,by omega,λm=>?_,cN.2 ⟨j3,by simp,λa J b z e=>?_⟩,by simp;omega⟩
     .rw[List.mem_append,j2,jd j0 ‹_›,List.mem_append,List.mem_singleton];constructor
      .rintro(⟨a,b⟩|rfl)
       .exact⟨.inl a,b⟩
       .exact⟨.inr rfl,w.1 h⟩
      .rintro⟨a|a,b⟩
       .exact .inl ⟨a,b⟩
       .exact .inr a
     .rw[List.mem_singleton]at z;subst z;subst e;exact D J
    .refine LJ.e (j+1,gm,l) ?_;dsimp only;refine⟨by omega,by omega,by omega,λm=>?_,j3,by omega⟩;rw[j2,jd j0 ‹_›,List.mem_append,List.mem_singleton];constructor
     .rintro⟨a,b⟩;exact⟨.inl a,b⟩
     .rintro⟨a|rfl,b⟩
      .exact⟨a,b⟩
      .exact absurd (w.2 b) h
   .rw[kW (by omega)]at j2;refine Yc (V4 (c++l) (by simp;omega) (λq f=>(List.mem_append.1 f).elim (λh=>(d.ok q h).small hg) λh=>A q ((j2 q).1 h).1)) ?_;simp;have L:=d.step hg (next:=N) (last':=l) (all':=kz (c++l)) t j2 j3 (Cd _) (λq=>by rw[vS,List.mem_append]);refine jU ?_ ?_<;>intro h
    .exact Ey.i (false,[]) (by simp) rfl (λh=>by cases h)
    .obtain⟨h1,s,R⟩:=L (by omega);refine LJ.e (kz (c++l),l) ?_;dsimp only;refine⟨?_,h1,by simp at *;omega⟩;have M:last≠[]:=λe=>by subst e;simp at *
     rw[if_neg M]
     by_cases e:l = []
     .rw[if_pos e];omega
     .have:=s e;rw[if_neg e];have:=h1.len;omega
 .refine Ey.i (true,c) (by simp) rfl λ_=>⟨⟨d.Ai,d.ok,λq f=>d.cl q f ?_,?_⟩,B⟩
  .have:last = []:=ay.1 (by omega);rw[this];simp
  .have:=fu d.has;exact⟨this,u⟩
theorem aef(x:p7)(c:IJ x):Wf T 13 [.agg x.cells,.i 40] [] (Ey (λy:fY×Pos×Bool×List Pos=>.agg (y.1.cells++(y.2.1.cells ++ [if y.2.2.1 then gQ y.2.2.2 else .fX,.b y.2.2.1]))) λy=>gN y.1/\ij y.1 y.2.1/\(y.2.2.1=true->IL y.1 y.2.2.2/\y.2.2.2.length<=40)):=by
 have hl:x.l.length=18:=c.len;have f:x.cells.length=31:=by simp[p7.cells,Raw.cells,c.len]
 have d:x.cells.take 31=x.cells:=af (by omega);refine Yg Js ?_;simp[Js,hl];refine⟨by omega,?_⟩;rw[d];refine gj.q rfl rfl (f32 x c) (by simpa using U3 x) (λ_=>by simp) ?_;rintro⟨g,p⟩ ⟨hg,a⟩;dsimp only at hg a;simp;refine gj.q rfl rfl (aep g hg p a) (by simp) (λy=>by obtain⟨b,l⟩:=y;cases b<;>simp) ?_;intro y e;simp;obtain⟨b,l⟩:=y;cases b
 .simp;exact Ey.i (g,p,false,l) rfl rfl ⟨hg,a,λh=>by cases h⟩
 .simp;exact Ey.i (g,p,true,l) rfl rfl ⟨hg,a,e⟩
theorem adn(g:fY)(hg:gN g)(l:List Pos)(d:oP g l)(h0:0<l.length)(h:l.length<=1000){L:List Cw}{dcl:D}(b:dcl = .sl 36 (L.map gT)\/(L = []/\dcl = .fX))
  (f:∀x∈L,x.ok) (e:∀x∈L,∀r∈x.c.es,r.2<=4000) (i:L.length<=100000) :
  Wf T 33 [dG g,gQ l,dcl] [] (Is (.agg (w9 (sW (jM g l (gu g l)) l.length (iY l.length) (cs L))))):=by
 have c:=adh g hg l d h0 h b f e i
 have a:closed dcl=true:=by
  rcases b with rfl|⟨rfl,rfl⟩
  .exact xB L
  .rfl
 obtain⟨S,hS⟩:∃S,sW (jM g l (gu g l)) l.length (iY l.length) (cs L)=S:=⟨_,rfl⟩;rw[hS]at c ⊢;clear hS;obtain⟨_|v,o⟩:=S
 .simp only[w9]at c;refine Yg Cp ?_;simp[Cp,a];refine Yc c ?_ rfl rfl (by simp[a]) (by simp);simp;refine fQ ?_;rfl
 .simp only[w9]at c;refine Yg Cp ?_;simp[Cp,a];refine Yc c ?_ rfl rfl (by simp[a]) (by simp);simp;refine fQ ?_;rfl
structure Wk where
 kind:Int
 pos:Int
 n:Int
 ub:Int
 s5:Int
 deriving Inhabited
def Wk.cells(w:Wk):List D:=[.i w.kind,.i w.pos,.i w.n,.i w.ub,.i w.s5]
structure Wk.ok(w:Wk):Prop where
 kind:1<=w.kind/\w.kind<=4
 pos:0<=w.pos/\w.pos<=31
 n:0<=w.n/\w.n<=5
 ub:1<=w.ub/\w.ub<=3
 s5:0<=w.s5/\w.s5<=8
def xd(x:List Int):Wk:=⟨1+gt x 0 % 4,gt x 1 % 32,gt x 2 % 6,1+gt x 3 % 3,gt x 4 % 9⟩
theorem an3(x:List Int):(xd x).ok:=⟨by unfold xd;dsimp only;omega,by unfold xd;dsimp only;omega,by unfold xd;dsimp only;omega,by unfold xd;dsimp only;omega,by unfold xd;dsimp only;omega⟩
def Cl(w:Wk)(v:List fO)(i:Int):fO:=if w.kind=4/\i=w.pos then(w.ub,w.s5)else gt v i
def oO(w:Wk)(v:List fO)(lo:Int):Nat->List fO
 | 0=>[]
 | n+1=>oO w v lo n ++ [Cl w v (lo+n)]
theorem TD(w:Wk)(v:List fO)(lo:Int):∀n,(oO w v lo n).length=n
 | 0=>rfl
 | n+1=>by rw[oO,aj,TD w v lo n];rfl
def IG(w:Wk)(t:Int):Bool:=decide (w.kind=1\/w.kind=4\/(w.kind=3/\w.n<=t))
set_option maxHeartbeats 4000000
theorem adv(a b c d e:Int)(r:0<=a/\a<256)(q:0<=b/\b<256)(p:0<=c/\c<256)(o:0<=d/\d<256)(n:0<=e/\e<256):Wf T 60 [.agg [.val (.int .u8 a),.val (.int .u8 b),.val (.int .u8 c),.val (.int .u8 d),.val (.int .u8 e)]] [] (Is (.agg (xd [a,b,c,d,e]).cells)):=by have h:(xd [a,b,c,d,e]).cells = [.i (1+a % 4),.i (b % 32),.i (c % 6),.i (1+d % 3),.i (e % 9)]:=rfl;have m:gp a 4=a % 4:=jt r.1;have l:gp b 32=b % 32:=jt q.1;have rc:gp c 6=c % 6:=jt p.1;have rd:gp d 3=d % 3:=jt o.1;have k:gp e 9=e % 9:=jt n.1;have j:IntKind.i64.wrap (a % 4)=a % 4:=mV im;have i:IntKind.i64.wrap (b % 32)=b % 32:=mV im;have wc:IntKind.i64.wrap (c % 6)=c % 6:=mV im;have g:IntKind.i64.wrap (d % 3)=d % 3:=mV im;have f:IntKind.i64.wrap (e % 9)=e % 9:=mV im;refine Yg I1 ?_;simp[I1,m,l,rc,rd,k,j,i,wc,g,f,h];omega
structure B5 where
 a:Int
 b:Int
 c:Int
 d:Int
 e:Int
 deriving Inhabited
structure B5.ok(x:B5):Prop where
 a:0<=x.a/\x.a<256
 b:0<=x.b/\x.b<256
 c:0<=x.c/\x.c<256
 d:0<=x.d/\x.d<256
 e:0<=x.e/\x.e<256
@[irreducible] def f5(x:B5):List D:=[.val (.int .u8 x.a),.val (.int .u8 x.b),.val (.int .u8 x.c),.val (.int .u8 x.d),.val (.int .u8 x.e)]
@[simp] theorem asV(x:B5):f5 x = [.val (.int .u8 x.a),.val (.int .u8 x.b),.val (.int .u8 x.c),.val (.int .u8 x.d),.val (.int .u8 x.e)]:=by unfold f5;rfl
instance:Fl f5 5:=⟨λ_=>by simp,λ_=>by simp[gw]⟩
@[irreducible] def ui(w:Wk):List D:=w.cells
theorem C8(w:Wk):ui w = [.i w.kind,.i w.pos,.i w.n,.i w.ub,.i w.s5]:=by unfold ui;rfl
instance:Fl ui 5:=⟨λ_=>by rw[C8];rfl,λ_=>by rw[C8];simp[gw]⟩
def B5.wk(x:B5):Wk:=xd [x.a,x.b,x.c,x.d,x.e]
theorem adg(l:List B5)(hl:∀x∈l,x.ok):Wf T 18 [.sl 5 (l.map f5)] [] (Is (.sl 5 (((l.take 8).map B5.wk).map ui))):=by
 obtain⟨R,f⟩:∃R,(l.take 8).map B5.wk=R:=⟨_,rfl⟩;rw[f];refine Yg IP ?_;simp[IP];refine fZ.e ((0,[]):Int×List Wk) (λy=>[(0,.sl 5 (l.map f5)),(3,.fM 0 y.2.length 5 0 y.2.length),(4,.i y.1)]) (λy=>[.row 149 y.2.length (cl ui y.2)]) (λy=>(0<=y.1/\y.1<=l.length/\y.1<=8)/\y.2=(l.take y.1.toNat).map B5.wk) (λy=>(l.length-y.1).toNat) ?_ ?_
 .simp
 rintro⟨i,A⟩ ⟨⟨i0,k,j⟩,b⟩;dsimp only at i0 k j b ⊢;have p:A.length=i.toNat:=by rw[b];simp;omega
 by_cases hi:i<l.length/\i<8
 .have e:=Ck (l:=l) i0 hi.1;have a:=hl _ (gq i0 hi.1);have c:=adv (gt l i).a (gt l i).b (gt l i).c (gt l i).d (gt l i).e a.a a.b a.c a.d a.e;have g:A ++ [(gt l i).wk]=(l.take (i+1).toNat).map B5.wk:=by rw[e,List.map_append,<-b];rfl
  rw[show xd [(gt l i).a,(gt l i).b,(gt l i).c,(gt l i).d,(gt l i).e]=(gt l i).wk from rfl]at c;obtain⟨w,m⟩:∃w,(gt l i).wk=w:=⟨_,rfl⟩;rw[m]at c g;rw[show w.cells=cl ui [w]by rw[iI];unfold ui;rfl]at c;have o:(cl ui [w]).length=5:=by rw[rh];rfl
  have d:(cl ui [w]).take 5=cl ui [w]:=af (by omega);simp[hi.1,hi.2];refine fQ ?_;refine Yc (c) ?_;simp[d];refine jH d ?_;refine LJ.i (i+1,A ++ [w]) (by first|rfl|simp[d]) (by first|rfl|simp[d]) rfl rfl ?_;exact pI g
 .have e:l.take i.toNat=l.take 8:=by
   by_cases h:i=8
   .rw[h];rfl
   .rw[af (by omega),af (by omega)]
  rw[e,f]at b;subst b;clear f e
  by_cases h:i<l.length
  .have n:i=8:=by omega
   subst n;simp[h]
  .simp[h]
