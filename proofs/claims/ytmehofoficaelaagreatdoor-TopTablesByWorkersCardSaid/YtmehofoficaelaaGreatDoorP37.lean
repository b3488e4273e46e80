/- 37 -/
import Derived.Test.YtmehofoficaelaaGreatDoorP36
set_option linter.all false
open Bool renaming true→aE,and_eq_true→di,false→ez
open List renaming map_cons→bf,mem_singleton→cc,replicate→dx,length_map→ej,foldl_append→ek,map_append→er,set_cons_succ→eB,range→eL,length→List.l
open Option renaming some→cp
open Go.IntKind renaming i64→eh
open Int renaming add_assoc→ep,add_mul→eK,toNat→Int.n
namespace Go.Proofs.YtmehofoficaelaaGreatDoor
open Go Go.AL Classical
structure iF where
 who:Int
 lo:Int
 hi:Int
 es:List gT
 root:List Int
 deriving Inhabited
def kN(c:iF)(i:Int):Bool:=decide (c.lo<=i/\i<c.hi)
def lW(c:iF)(i:Int):gT:=gt c.es (i-c.lo)
def sd(cl:List iF)(i:Int):List gT:=(cl.filter λc=>kN c i).map λc=>lW c i
def uD{cl:List iF}{i:Int}{r:gT}:r∈sd cl i↔∃c∈cl,kN c i=aE/\lW c i=r:=by
 unfold sd;rw[aj];constructor
 .grind
 .grind
def vC:List Int->Int
 | [] => -1
 | a::r=>r.foldl min a
def AG:List Int->Int
 | [] => -1
 | a::r=>r.foldl max a
theorem foldl_min:∀(r:List Int) (a:Int),(r.foldl min a=a\/r.foldl min a∈r)/\r.foldl min a<=a/\∀y∈r,r.foldl min a<=y
 | [],a=>⟨.inl rfl,cI _,gP⟩
 | b::r,a=>by
  obtain⟨h1,e,d⟩:=foldl_min r (min a b);rw[cK];refine⟨?_,U,λy c=>?_⟩
  .grind
  .grind
theorem foldl_max:∀(r:List Int) (a:Int),(r.foldl max a=a\/r.foldl max a∈r)/\a<=r.foldl max a/\∀y∈r,y<=r.foldl max a
 | [],a=>⟨.inl rfl,cI _,gP⟩
 | b::r,a=>by
  obtain⟨h1,e,d⟩:=foldl_max r (max a b);rw[cK];refine⟨?_,U,λy c=>?_⟩
  .grind
  .grind
def Cp{l:List Int}(h:l≠[]):vC l∈l:=by
 cases l with
 | nil=>exact absurd rfl h
 | cons a r=>
  rcases(foldl_min r a).1 with e|e
  .exact ak.2 (.inl e)
  .exact bt _ e
def EB{l:List Int}{y:Int}(h:y∈l):vC l<=y:=by
 cases l with
 | nil=>cases h
 | cons a r=>
  rcases ak.1 h with rfl|h
  .exact(foldl_min r y).2.1
  .exact(foldl_min r a).2.2 y h
def RO{l:List Int}(h:l≠[]):AG l∈l:=by
 cases l with
 | nil=>exact absurd rfl h
 | cons a r=>
  rcases(foldl_max r a).1 with e|e
  .exact ak.2 (.inl e)
  .exact bt _ e
def RC{l:List Int}{y:Int}(h:y∈l):y<=AG l:=by
 cases l with
 | nil=>cases h
 | cons a r=>
  rcases ak.1 h with rfl|h
  .exact(foldl_max r y).2.1
  .exact(foldl_max r a).2.2 y h
def nD(l:List gT):Int:=vC ((l.filter λr=>decide (r.1≠2)).map λr=>r.2)
def pd(l:List gT):gT:=l.headD default
def om(l:List gT):Bool:=l.any λr=>decide (r≠pd l)
def aad{l:List gT}:om l=aE↔∃r∈l,r≠pd l:=by simp[om]
def P7{l:List gT}:om l=ez↔∀r∈l,r=pd l:=by simp[om]
def F'{l:List gT}(h:l≠[]):pd l∈l:=by
 cases l with
 | nil=>exact absurd rfl h
 | cons a r=>exact eE
def alW{l:List gT}{r:gT}(h:r∈l)(a:r.1≠2):nD l<=r.2:=
 EB (aj.2 ⟨r,aH.2 ⟨h,by simpa using a⟩,rfl⟩)
def alX{l:List gT}(h:∃r∈l,r.1≠2):∃r∈l,r.1≠2/\r.2=nD l:=by
 obtain⟨r,b,c⟩:=h
 have:=Cp (l:=(l.filter λr=>decide (r.1≠2)).map λr=>r.2) λe=>by have:r.2∈(l.filter λr=>decide (r.1≠2)).map λr=>r.2:=aj.2 ⟨r,aH.2 ⟨b,by simpa using c⟩,rfl⟩;rw[e]at this;cases this
 obtain⟨q,a,e⟩:=aj.1 this;rw[aH]at a;exact⟨q,a.1,by simpa using a.2,e⟩
def kA(l:List gT)(o:Int):List Int:=(l.filter λr=>decide (r.1=o)).map λr=>r.2
def vB{l:List gT}{o n:Int}:n∈kA l o↔(o,n)∈l:=by
 unfold kA;rw[aj];constructor
 .grind
 .simp_all
def Ho{l:List gT}{o:Int}:(kA l o).l=l.l↔∀r∈l,r.1=o:=by unfold kA;rw[ej,e7];simp
def pe(l:List gT):gT:=
 if kA l 3≠[]then(1,vC (kA l 3)+1)else if l≠[]/\(kA l 1).l=l.l then(3,AG (kA l 1)+1)else(2,0)
def Lj(A:mM)(cl:List iF)(i n:Int):List gT:=(gt A.nx i).map λj=>if om (sd cl j)=ez/\(pd (sd cl j)).2<n then pd (sd cl j)else(2,0)
def tu(A:mM)(cl:List iF)(i:Int)(c:iF):Bool:=
 kN c i&&(if A.ov i=aE then decide (lW c i≠(A.rs i,0))else
  if (pe (Lj A cl i (nD (sd cl i)))).1≠2 then decide (lW c i≠pe (Lj A cl i (nD (sd cl i))))else decide ((lW c i).1≠2/\(lW c i).2=nD (sd cl i)))
def mJ(r:gT):Bool:=decide (r=(2,0)\/((r.1=1\/r.1=3)/\0<=r.2))
def kE.dr{A:mM}{v:List gT}{i:Int}(h:kE A v i)(a:(gt v i).1=2):gt v i=(2,0):=by
 rcases h with⟨_,e⟩|⟨_,⟨n,_,e,_⟩|⟨n,_,e,_⟩|⟨e,_⟩⟩
 .grind
 .grind
 .grind
 .exact e
section
variable{A:mM}{V:List gT}{cl:List iF}{N:Int}
theorem ahp{i:Int}(c:∀r∈sd cl i,mJ r=aE)(f:om (sd cl i)=aE):∃r∈sd cl i,r.1≠2:=by
 obtain⟨r,b,g⟩:=aad.1 f;have h0:=F' (l:=sd cl i) λe=>by rw[e]at b;cases b
 have a:=c r b;have d:=c _ h0;simp only[mJ,decide_eq_true_eq]at a d;rcases a with a|a
 .grind
 .grind
theorem auk(iG:∀i,0<=i->i<N->∀k∈gt A.nx i,0<=k/\k<N)(hV:∀i,0<=i->i<N->kE A V i)(I:∀i,0<=i->i<N->gt V i∈sd cl i)
  {i:Int} (i0:0<=i) (H:i<N) (E:∀j,0<=j->j<N->om (sd cl j)=aE->nD (sd cl i)<=nD (sd cl j)) {c:iF} (hs:lW c i=gt V i):tu A cl i c=false:=by
 have G:∀j∈gt A.nx i,(if om (sd cl j)=ez/\(pd (sd cl j)).2<nD (sd cl i)then pd (sd cl j)else(2,0))=if (gt V j).1≠2/\(gt V j).2<nD (sd cl i)then gt V j else(2,0):=λj a=>by
  obtain⟨j0,j1⟩:=iG i i0 H j a;have b:=I j j0 j1
  by_cases q:om (sd cl j)=aE
  .rw[if_neg (λh=>by rw[q]at h;cases h.1)];rw[if_neg];rintro⟨h1,v⟩;have:=alW b h1;have:=E j j0 j1 q;omega
  .have q:om (sd cl j)=false:=by simpa using q
   have e:=P7.1 q _ b;rw[<-e]
   by_cases v:(gt V j).1=2
   .rw[(hV j j0 j1).dr v];simp
   .simp[q,v]
 have F:Lj A cl i (nD (sd cl i))=(gt A.nx i).map λj=>if (gt V j).1≠2/\(gt V j).2<nD (sd cl i)then gt V j else(2,0):=au G
 unfold tu;rw[hs,F];generalize nD (sd cl i)=n;clear G F E hs I;have b:∀(o p:Int),o≠2->((o,p)∈((gt A.nx i).map λj=>if (gt V j).1≠2/\(gt V j).2<n then gt V j else(2,0))↔∃j∈gt A.nx i,gt V j=(o,p)/\p<n):=λo p P=>kM;have hM:∀j∈gt A.nx i,(if (gt V j).1≠2/\(gt V j).2<n then gt V j else(2,0))∈(gt A.nx i).map λj=>if (gt V j).1≠2/\(gt V j).2<n then gt V j else(2,0):=λj a=>aj.2 ⟨j,a,rfl⟩
 have z:∀r∈(gt A.nx i).map (λj=>if (gt V j).1≠2/\(gt V j).2<n then gt V j else(2,0)),∃j∈gt A.nx i,(if (gt V j).1≠2/\(gt V j).2<n then gt V j else(2,0))=r:=λr u=>aj.1 u;generalize ((gt A.nx i).map λj=>if (gt V j).1≠2/\(gt V j).2<n then gt V j else(2,0))=M at *;rw[Bool.and_eq_false_iff];right;rcases hV i i0 H with⟨o,e⟩|⟨o,⟨m,m1,e,⟨k,d,t⟩,D⟩|⟨m,m1,e,x,k,d,t⟩|⟨e,K,B⟩⟩
 .grind
 .rw[if_neg (by rw[o];simp),e]
  by_cases g:kA M 3 = []
  .have L:n<=m-1:=by refine ff.1 λh=>?_;have:=vB.2 ((b 3 (m-1) jo).2 ⟨k,d,t,h⟩);rw[g]at this;cases this
   have f:pe M=(2,0):=by unfold pe;rw[if_neg (λh=>h g),if_neg];rintro⟨_,s⟩;have:=Ho.1 s _ (hM k d);rw[t,if_neg iz]at this;simp at this
   rw[f];simp;omega
  .obtain⟨j,a,l,O⟩:=(b 3 _ jo).1 (vB.1 (Cp g));have h1:=D j a (by rw[l]);rw[l]at h1;dsimp only at h1;have v:=EB (vB.2 ((b 3 (m-1) jo).2 ⟨k,d,t,U⟩))
   have f:pe M=(1,m):=by unfold pe;rw[if_pos g,(U:vC (kA M 3)+1=m)]
   rw[f];simp
 .rw[if_neg (by rw[o];simp),e]
  have g:kA M 3 = []:=by refine a7.2 λp y=>?_;obtain⟨j,a,l,_⟩:=(b 3 _ jo).1 (vB.1 y);have:=(x j a).1;rw[l]at this;simp at this
  by_cases D:m-1<n
  .have C:∀r∈M,r.1=1:=λr u=>by grind
   have w:m-1∈kA M 1:=vB.2 ((b 1 (m-1) jo).2 ⟨k,d,cZ (x k d).1 t,D⟩);have Q:=RC w;obtain⟨j,a,l,_⟩:=(b 1 _ jo).1 (vB.1 (RO λh=>by rw[h]at w;cases w));have J:=(x j a).2;rw[l]at J;dsimp only at J
   have f:pe M=(3,m):=by unfold pe;rw[if_neg (λh=>h g),if_pos ⟨λh=>(by have:=hM k d;rw[h]at this;cases this),Ho.2 C⟩,(U:AG (kA M 1)+1=m)]
   rw[f];simp
  .have f:pe M=(2,0):=by unfold pe;rw[if_neg (λh=>h g),if_neg];rintro⟨_,s⟩;have:=Ho.1 s _ (hM k d);rw[if_neg U]at this;simp at this
   rw[f];simp;omega
 .rw[if_neg (by rw[o];simp),e]
  have g:kA M 3 = []:=by refine a7.2 λp y=>?_;obtain⟨j,a,l,_⟩:=(b 3 _ jo).1 (vB.1 y);exact K j a (by rw[l])
  have f:pe M=(2,0):=by
   unfold pe;rw[if_neg (λh=>h g),if_neg];rintro⟨h0,s⟩;obtain⟨r,u⟩:=de _ h0;obtain⟨j,a,_⟩:=z r u;refine B ⟨λh=>(by rw[h]at a;cases a),λk d=>?_⟩;have:=Ho.1 s _ (hM k d);split at this
   .exact this
   .simp at this
  rw[f];simp
theorem afq{i:Int}(k:∀r∈sd cl i,mJ r=aE)(f:om (sd cl i)=aE):∃c∈cl,tu A cl i c=true:=by
 have two:∀w:gT,∃c∈cl,kN c i=aE/\lW c i≠w:=λw=>by
  obtain⟨r,a,g⟩:=aad.1 f;have h0:=F' (l:=sd cl i) λe=>by rw[e]at a;cases a
  by_cases h:r=w
  .obtain⟨c,h1,d,b⟩:=uD.1 h0;exact⟨c,h1,d,by rw[b,<-h];exactλe=>g e.symm⟩
  .obtain⟨c,h1,d,b⟩:=uD.1 a;exact⟨c,h1,d,by rw[b];exact h⟩
 unfold tu
 by_cases m:A.ov i=aE
 .simp_all
 .by_cases j:(pe (Lj A cl i (nD (sd cl i)))).1≠2
  .simp_all
  .obtain⟨r,a,d,e⟩:=alX (ahp k f);obtain⟨c,h1,b,rfl⟩:=uD.1 a;exact⟨c,h1,by rw[b,if_neg m,if_neg j];simpa using ⟨d,e⟩⟩
end
set_option maxRecDepth 10000
set_option maxHeartbeats 4000000
theorem Tn:∀(n:Nat) (a b:List Int),a.l=n->b.l=n->oi (dx n oe.int) (cl fU a) (cl fU b)=cp (decide (a=b))
 | 0,[],[],_,_=>by simp[pO,oi]
 | n+1,x::a,y::b,ha,hb=>by
  have c:=Tn n a b (by simpa using ha) (by simpa using hb);rw[oG,oG,By,By,bL]
  show(match wZ .int (.val (.int .u8 x)) (.val (.int .u8 y)),oi (dx n oe.int) (cl fU a) (cl fU b)with
   | some a,cp b=>cp (a&&b)
   | _,_=>none)=_
  rw[c];show cp (decide (x=y)&&decide (a=b))=_;rw[<-eu];congr 1;exact decide_eq_decide.2 gP
def S2:List oe:=dx 32 oe.int
def YT:S2 = [.int,.int,.int,.int,.int,.int,.int,.int,.int,.int,.int,.int,.int,.int,.int,.int,.int,.int,.int,.int,.int,.int,.int,.int,.int,.int,.int,.int,.int,.int,.int,.int]:=rfl
def dE(em:Bool)(es:List gT):D:=if em then .gV else iS es
structure Cw where
 c:iF
 em:Bool
 deriving Inhabited
def Cw.cells(x:Cw):List D:=[.i x.c.who,.i x.c.lo,.i x.c.hi,dE x.em x.c.es]++cl fU x.c.root
structure Cw.ok(x:Cw):Prop where
 em:x.em=aE->x.c.es = []
 es:x.c.es.l<=64
 root:x.c.root.l=32
 lo : -1000000<=x.c.lo/\x.c.lo<=1000000
 hi : -1000000<=x.c.hi/\x.c.hi<=1000000
def Z5{em:Bool}{es:List gT}(h:em=aE->es = []):dV es (dE em es):=by
 unfold dE;cases em
 .exact .inl rfl
 .exact .inr ⟨h rfl,rfl⟩
def TG{em:Bool}{es:List gT}(h:em=aE->es = [])(H:gQ):od .slice (dE em es) H=cp (.i es.l):=by
 unfold dE;cases em
 .simp
 .rw[h rfl];simp
@[simp] theorem ayp(em:Bool)(es:List gT):closed (dE em es)=true:=by unfold dE;cases em<;>simp
def snd(c:iF):Bool:=decide (0<=c.lo/\c.lo<=c.hi/\(c.es.l:Int)=c.hi-c.lo/\c.root=lN c.es)
def ah5(x:Cw)(b:x.ok):Wf T 48 [.agg x.cells] [] (Is (.b (snd x.c))):=by
 have e:=Jx (Z5 b.em) b.es;have f:=AR x.c.es;have i:=b.root;have n:=b.lo;have o:=b.hi;have m:=b.es;have a:=TG b.em;obtain⟨⟨who,lo,hi,es,root⟩,em⟩:=x;unfold Cw.cells snd;dsimp only at *;obtain⟨r,l⟩:∃r,lN es=r:=⟨_,rfl⟩;rw[l]at e f ⊢;obtain⟨E,g⟩:∃E,dE em es=E:=⟨_,rfl⟩;have j:closed E=true:=by rw[<-g];simp
 rw[g]at e a ⊢;have k:root.take 32=root:=af U;have c:=Tn 32 root r i f;rw[show dx 32 oe.int=S2 from rfl,YT]at c
 by_cases h1:0<=lo
 .by_cases d:lo<=hi
  .by_cases h:(es.l:Int)=hi-lo
   .refine Yg yE ?_;simp[yE,h1,d,a];refine jM a ?_;refine ke.c rfl rfl e (by simp[j]) gP ?_;simp[k,c,h]
   .refine Yg yE ?_;simp[yE,h1,d,a];refine jM a ?_;simp[h]
  .refine Yg yE ?_;simp[yE,h1,d]
 .refine Yg yE ?_;simp[yE,h1]
def ais(x:Cw)(b:x.ok):Wf T 127 [.agg x.cells] [] (Is (.b (snd x.c))):=by
 have e:=ah4 (Z5 b.em) b.es;have f:=AR x.c.es;have i:=b.root;have n:=b.lo;have o:=b.hi;have m:=b.es;have a:=TG b.em;obtain⟨⟨who,lo,hi,es,root⟩,em⟩:=x;unfold Cw.cells snd;dsimp only at *;obtain⟨r,l⟩:∃r,lN es=r:=⟨_,rfl⟩;rw[l]at e f ⊢;obtain⟨E,g⟩:∃E,dE em es=E:=⟨_,rfl⟩;have j:closed E=true:=by rw[<-g];simp
 rw[g]at e a ⊢;have k:root.take 32=root:=af U;have c:=Tn 32 root r i f;rw[show dx 32 oe.int=S2 from rfl,YT]at c
 by_cases h1:0<=lo
 .by_cases d:lo<=hi
  .by_cases h:(es.l:Int)=hi-lo
   .refine Yg yF ?_;simp[yF,h1,d,a];refine jM a ?_;refine ke.c rfl rfl e (by simp[j]) gP ?_;simp[k,c,h]
   .refine Yg yF ?_;simp[yF,h1,d,a];refine jM a ?_;simp[h]
  .refine Yg yF ?_;simp[yF,h1,d]
 .refine Yg yF ?_;simp[yF,h1]
structure Wk where
 kind:Int
 pos:Int
 n:Int
 nY:Int
 nN:Int
 deriving Inhabited
def Wk.cells(w:Wk):List D:=[.i w.kind,.i w.pos,.i w.n,.i w.nY,.i w.nN]
structure Wk.ok(w:Wk):Prop where
 kind:1<=w.kind/\w.kind<=4
 pos:0<=w.pos/\w.pos<=31
 n:0<=w.n/\w.n<=5
 nY:1<=w.nY/\w.nY<=3
 nN:0<=w.nN/\w.nN<=8
def zC(x:List Int):Wk:=⟨1+gt x 0 % 4,gt x 1 % 32,gt x 2 % 6,1+gt x 3 % 3,gt x 4 % 9⟩
def aub(x:List Int):(zC x).ok:=⟨by unfold zC;dsimp only;omega,by unfold zC;dsimp only;omega,by unfold zC;dsimp only;omega,by unfold zC;dsimp only;omega,by unfold zC;dsimp only;omega⟩
def Mr(w:Wk)(v:List gT)(i:Int):gT:=if w.kind=4/\i=w.pos then(w.nY,w.nN)else gt v i
def uL(w:Wk)(v:List gT)(lo:Int):Nat->List gT
 | 0=>[]
 | n+1=>uL w v lo n ++ [Mr w v (lo+n)]
theorem CO(w:Wk)(v:List gT)(lo:Int):∀n,(uL w v lo n).l=n
 | 0=>rfl
 | n+1=>by rw[uL,aq,CO w v lo n];rfl
def Mp(w:Wk)(t:Int):Bool:=decide (w.kind=1\/w.kind=4\/(w.kind=3/\w.n<=t))
def ah9(a b c d e:Int)(r:0<=a/\a<256)(q:0<=b/\b<256)(p:0<=c/\c<256)(o:0<=d/\d<256)(n:0<=e/\e<256):Wf T 60 [.agg [.val (.int .u8 a),.val (.int .u8 b),.val (.int .u8 c),.val (.int .u8 d),.val (.int .u8 e)]] [] (Is (.agg (zC [a,b,c,d,e]).cells)):=by have h:(zC [a,b,c,d,e]).cells = [.i (1+a % 4),.i (b % 32),.i (c % 6),.i (1+d % 3),.i (e % 9)]:=rfl;have m:iu a 4=a % 4:=kK r.1;have l:iu b 32=b % 32:=kK q.1;have rc:iu c 6=c % 6:=kK p.1;have rd:iu d 3=d % 3:=kK o.1;have k:iu e 9=e % 9:=kK n.1;have j:eh.wrap (a % 4)=a % 4:=qo jc;have i:eh.wrap (b % 32)=b % 32:=qo jc;have wc:eh.wrap (c % 6)=c % 6:=qo jc;have g:eh.wrap (d % 3)=d % 3:=qo jc;have f:eh.wrap (e % 9)=e % 9:=qo jc;refine Yg MG ?_;simp[MG,m,l,rc,rd,k,j,i,wc,g,f,h];omega
structure B5 where
 a:Int
 b:Int
 c:Int
 d:Int
 e:Int
 deriving Inhabited
structure B5.ok(x:B5):Prop where
 a:0<=x.a/\x.a<256
 b:0<=x.b/\x.b<256
 c:0<=x.c/\x.c<256
 d:0<=x.d/\x.d<256
 e:0<=x.e/\x.e<256
@[irreducible] def f5(x:B5):List D:=[.val (.int .u8 x.a),.val (.int .u8 x.b),.val (.int .u8 x.c),.val (.int .u8 x.d),.val (.int .u8 x.e)]
@[simp] theorem ay1(x:B5):f5 x = [.val (.int .u8 x.a),.val (.int .u8 x.b),.val (.int .u8 x.c),.val (.int .u8 x.d),.val (.int .u8 x.e)]:=by unfold f5;rfl
instance:Fl f5 5:=⟨λ_=>gP,λ_=>by simp[iB]⟩
@[irreducible] def qv(w:Wk):List D:=w.cells
theorem yY(w:Wk):qv w = [.i w.kind,.i w.pos,.i w.n,.i w.nY,.i w.nN]:=by unfold qv;rfl
instance:Fl qv 5:=⟨λ_=>by rw[yY];rfl,λ_=>by rw[yY];simp[iB]⟩
def B5.wk(x:B5):Wk:=zC [x.a,x.b,x.c,x.d,x.e]
def ahV(l:List B5)(hl:∀x∈l,x.ok):Wf T 18 [.sl 5 (l.map f5)] [] (Is (.sl 5 (((l.take 8).map B5.wk).map qv))):=by
 obtain⟨R,f⟩:∃R,(l.take 8).map B5.wk=R:=⟨_,rfl⟩;rw[f];refine Yg Mz ?_;simp[Mz];refine gZ.e ((0,[]):Int×List Wk) (λy=>[(0,.sl 5 (l.map f5)),(3,.gR 0 y.2.l 5 0 y.2.l),(4,.i y.1)]) (λy=>[.row 149 y.2.l (cl qv y.2)]) (λy=>(0<=y.1/\y.1<=l.l/\y.1<=8)/\y.2=(l.take y.1.n).map B5.wk) (λy=>(l.l-y.1).n) ?_ ?_
 .simp
 rintro⟨i,A⟩ ⟨⟨i0,k,j⟩,b⟩;dsimp only at i0 k j b ⊢;have p:A.l=i.n:=by rw[b];simp;omega
 by_cases hi:i<l.l/\i<8
 .have e:=H9 (l:=l) i0 hi.1;have a:=hl _ (ij i0 hi.1);have c:=ah9 (gt l i).a (gt l i).b (gt l i).c (gt l i).d (gt l i).e a.a a.b a.c a.d a.e;have g:A ++ [(gt l i).wk]=(l.take (i+1).n).map B5.wk:=by rw[e,er,<-b];rfl
  rw[show zC [(gt l i).a,(gt l i).b,(gt l i).c,(gt l i).d,(gt l i).e]=(gt l i).wk from rfl]at c;obtain⟨w,m⟩:∃w,(gt l i).wk=w:=⟨_,rfl⟩;rw[m]at c g;rw[show w.cells=cl qv [w]by rw[jw];unfold qv;rfl]at c;have o:(cl qv [w]).l=5:=by rw[ue];rfl
  have d:(cl qv [w]).take 5=cl qv [w]:=af U;simp[hi.1,hi.2];refine gU ?_;refine Yc (c) ?_;simp[d];refine jM d ?_;refine LJ.i (i+1,A ++ [w]) (by first|rfl|simp[d]) (by first|rfl|simp[d]) rfl rfl ?_;exact oO g
 .have e:l.take i.n=l.take 8:=by
   by_cases h:i=8
   .rw[h];rfl
   .rw[af U,af U]
  rw[e,f]at b;subst b;clear f e
  by_cases h:i<l.l
  .have n:i=8:=by omega
   subst n;simp[h]
  .simp[h]
@[irreducible] def HA(l:List Int):List Int:=(l++zs 32).take 32
theorem asd(l:List Int):(HA l).l=32:=by unfold HA;simp
def Ly{l:List Int}(h:l.l=32):HA l=l:=by unfold HA;rw[aV U,af U]
@[irreducible] def iW(x:Cw):List D:=[.i x.c.who,.i x.c.lo,.i x.c.hi,dE x.em x.c.es]++cl fU (HA x.c.root)
theorem Dr(x:Cw):iW x = [.i x.c.who,.i x.c.lo,.i x.c.hi,dE x.em x.c.es]++cl fU (HA x.c.root):=by unfold iW;rfl
def Qj{x:Cw}(h:x.ok):iW x=x.cells:=by rw[Dr,Ly h.root];rfl
instance:Fl iW 36:=⟨λx=>by rw[Dr];simp[asd],λx=>by rw[Dr];simp[iB]⟩
set_option maxHeartbeats 8000000
def Bo(l:List Int):cl fU l=l.map λx=>.val (.int .u8 x):=by
 unfold cl
 induction l with
 | nil=>rfl
 | cons a l b=>simp[b,fU]
def Sw(ρ:Nat->Option Nat)(H:gQ)(k:Nat)(l:List Int):(cl fU l).map (ib ρ H (k+1))=cl fU l:=by rw[Bo,bC];rfl
def P8(l:List Int)(h:l.l=32)(b:D):(cl fU l ++ [b]).drop 33 = []:=by rw[List.drop_eq_nil_iff];simp[h,ue]
def uT(n:Int):Nat->Int->List gT
 | 0,_=>[]
 | k+1,a=>(a,a+(n-a+k) / (k+1))::uT n k (a+(n-a+k) / (k+1))
def ahh{n a:Int}{k:Nat}(h:((k+1:Nat):Int)<=n-a):1<=(n-a+k) / (k+1)/\(n-a+k) / (k+1)<=n-a-k:=by
 have b:(0:Int)<k+1:=U;refine⟨?_,?_⟩
 .rw[Int.le_ediv_iff_mul_le b];omega
 .have:0<=(n-a-k-1)*(k:Int):=gJ U U;have e:(n-a-k+1)*((k:Int)+1)=(n-a-k-1)*k+2*k+(n-a-k+1):=by rw[Int.mul_add,Int.mul_one,(U:n-a-(k:Int)+1=(n-a-k-1)+2),eK]
  have:=Int.ediv_lt_of_lt_mul b (U:n-a+k<(n-a-k+1)*((k:Int)+1));omega
theorem Dd{n:Int}:∀ {k:Nat} {a:Int},0<=a->(k:Int)<=n-a->∀p∈uT n k a,0<=p.1/\p.1<p.2/\p.2<=n
 | 0,_,_,_,p,hp=>by cases hp
 | k+1,a,h0,h,p,hp=>by
  have b:=ahh h;rcases ak.1 hp with rfl|hp
  .dsimp only;omega
  .exact Dd U U p hp
theorem PZ{n:Int}:∀ {k:Nat} {a:Int},(uT n k a).l=k
 | 0,_=>rfl
 | k+1,_=>by rw[uT,aF,PZ]
@[irreducible] noncomputable def tt(w:Wk)(who:Int)(p:gT)(v:List gT):Cw:=⟨⟨who,p.1,p.2,uL w v p.1 (p.2-p.1).n,lN (uL w v p.1 (p.2-p.1).n)⟩,ez⟩
noncomputable def yq(ws:List Wk)(v P:List gT)(t:Int):Nat->List Cw
 | 0=>[]
 | n+1=>yq ws v P t n++(if Mp (gt ws n) t=aE then [tt (gt ws n) n (gt P (n % P.l)) v]else [])
theorem W8{ws:List Wk}{v P:List gT}{t:Int}:∀n,(yq ws v P t n).l<=n
 | 0=>Nat.le_refl 0
 | n+1=>by
  have:=W8 (ws:=ws) (v:=v) (P:=P) (t:=t) n;rw[yq,aq];split
  .simp;omega
  .simp;omega
def ahf{r k s t:Int}(k0:0<=k)(t0:0<=t)(t1:t<=k)(h:r=(k+1)*s+t):(r+k) / (k+1)=s+(if 0<t then 1 else 0):=by
 have e:r+k=(t+k)+(k+1)*s:=U;rw[e,gK _ _ U]
 by_cases a:0<t
 .rw[if_pos a,(U:t+k=(t-1)+(k+1)*1),gK _ _ U,eU U U];omega
 .rw[if_neg a,(U:t+k=k),eU k0 U];omega
def aia(n k:Int)(h0:0<n)(N:n<=4000)(k0:1<=k)(k9:k<=4000):Wf T 61 [.i n,.i k] [] (Is (.sl 2 ((uT n (min k n).n 0).map fS))):=by
 obtain⟨K,x⟩:∃K:Nat,min n k=K:=⟨(min n k).n,U⟩;have p:(min k n).n=K:=U;have I:0<K:=U;have l:vF n K=n / K:=xq U U U;have j:iu n K=n % K:=kK U;have v:=Int.mul_ediv_add_emod n K;have M:=bZ n (U:(K:Int)≠0);have z:=bR n (U:(0:Int)<K);have q:0<=n / (K:Int):=Int.ediv_nonneg U U;have C:n / (K:Int)<=n:=Int.ediv_le_self _ U;obtain⟨s,hs⟩:∃s,n / (K:Int)=s:=⟨_,rfl⟩;obtain⟨m,G⟩:∃m,n % (K:Int)=m:=⟨_,rfl⟩;rw[hs]at l v q C;rw[G]at j v M z;have n1:¬k<1:=U;have n2:¬n<1:=U;have u:¬ 4000<n:=U;rw[p];have B:(uT n K 0).l=K:=PZ;obtain⟨R,w⟩:∃R,uT n K 0=R:=⟨_,rfl⟩;rw[w]at B ⊢;refine Yg MH ?_;simp[MH,n1,n2,u,x,l,j];refine kf (And.intro n1 n2) (And.intro u x) (And.intro l j) ?_;refine gZ.e ((0,0,[]):Nat×Int×List gT) (λy=>[(5,.i s),(6,.i m),(7,if y.2.2 = []then .gV else .gR 0 (y.2.2.l-1) 2 0 y.2.2.l),(8,.i y.2.1),(30,.i K),(31,.i (y.1:Nat))]) (λy=>(if y.2.2 = []then []else [.row 204 (y.2.2.l-1) (cl fS y.2.2)])) (λy=>(y.1<=K/\0<=y.2.1)/\y.2.2++uT n (K-y.1) y.2.1=R/\y.2.2.l=y.1/\n-y.2.1=((K:Int)-y.1)*s+max (m-y.1) 0) (λy=>K-y.1) ?_ ?_
 .refine⟨⟨gP,gP⟩,by simpa using w,rfl,?_⟩;simp;omega
 rintro⟨i,a,A⟩ ⟨⟨hi,J⟩,c,hl,o⟩;dsimp only at hi J c hl o ⊢
 by_cases f:i<K
 .obtain⟨g,D⟩:∃g:Nat,K-i=g+1:=⟨K-i-1,U⟩;have H:=ahf (r:=n-a) (k:=g) (s:=s) (t:=max (m-i) 0) U U U (by rw[o,(U:(K:Int)-i=g+1)]);rw[D,uT,H]at c
  have e2:((K:Int)-i)*s=((K:Int)-(i+1:Nat))*s+s:=by rw[(U:(K:Int)-i=((K:Int)-(i+1:Nat))+1),eK,Int.one_mul]
  have L:0<=((K:Int)-(i+1:Nat))*s:=gJ U q;obtain⟨P,hP⟩:∃P,((K:Int)-(i+1:Nat))*s=P:=⟨_,rfl⟩;rw[hP]at e2 L;rw[e2]at o;have h:K-(i+1)=g:=U
  by_cases b:A = []
  .subst b;have O:i=0:=by simpa using hl.symm
   by_cases d:(i:Int)<m
   .rw[if_pos U]at c;simp[f,d];refine ko f d ?_;exact LJ.i (i+1,a+s+1,[(a,a+s+1)]) gP (by simp[jw]) rfl rfl ⟨iv,jc,by dsimp only;rw[h,<-c];simp[ep],by simp[hl],by dsimp only;rw[hP];omega⟩
   .rw[if_neg U]at c;simp[f,d];refine ko f d ?_;exact LJ.i (i+1,a+s,[(a,a+s)]) gP (by simp[jw]) rfl rfl ⟨iv,jc,by dsimp only;rw[h,<-c];simp[ep],by simp[hl],by dsimp only;rw[hP];omega⟩
  .have F:0<A.l:=ay.2 b;rw[if_neg b,if_neg b]
   by_cases d:(i:Int)<m
   .rw[if_pos U]at c;simp[f,d,b];refine kf f d b ?_;exact LJ.i (i+1,a+s+1,A ++ [(a,a+s+1)]) (by simp[(U:A.l-1+1=A.l)]) (by simp[(U:A.l-1+1=A.l)]) rfl rfl ⟨iv,jc,by dsimp only;rw[h,<-c];simp[ep],by simp[hl],by dsimp only;rw[hP];omega⟩
   .rw[if_neg U]at c;simp[f,d,b];refine kf f d b ?_;exact LJ.i (i+1,a+s,A ++ [(a,a+s)]) (by simp[(U:A.l-1+1=A.l)]) (by simp[(U:A.l-1+1=A.l)]) rfl rfl ⟨iv,jc,by dsimp only;rw[h,<-c];simp[ep],by simp[hl],by dsimp only;rw[hP];omega⟩
 .have E:i=K:=by omega
  subst E;rw[b6,uT,az]at c;have b:A≠[]:=λe=>by rw[e]at hl;simp at hl;omega
  rw[if_neg b,if_neg b];simp[b];refine jM b ?_;rw[c]
set_option maxHeartbeats 4000000
def kq(n:Int)(c:iF):Bool:=snd c&&decide (c.hi<=n)
noncomputable def s9(V:List gT)(c:iF):Bool:=kq V.l c&&decide (∀i:Int,c.lo<=i->i<c.hi->lW c i=gt V i)
def L8{c:iF}(h:snd c=aE):0<=c.lo/\c.lo<=c.hi/\(c.es.l:Int)=c.hi-c.lo:=by unfold snd at h;have:=of_decide_eq_true h;exact⟨this.1,this.2.1,this.2.2.1⟩
def aie(x:Cw)(a:x.ok)(i:Int):Wf T 68 [.agg x.cells,.i i] [] (Is (.b (kN x.c i))):=by
 obtain⟨⟨who,lo,hi,es,root⟩,em⟩:=x;have b:=a.root;unfold Cw.cells kN;dsimp only at *
 by_cases h1:lo<=i
 .refine Yg Fk ?_;simp[Fk,h1]
 .refine Yg Fk ?_;simp[Fk,h1]
def aif(x:Cw)(d:x.ok)(n:Int):Wf T 69 [.agg x.cells,.i n] [] (Is (.b (kq n x.c))):=by
 have c:=ais x d;have a:=d.root;have g:(x.cells).l=36:=by unfold Cw.cells;simp[a]
 have f:x.cells.take 36=x.cells:=af U;unfold kq;obtain⟨b,e⟩:∃b,snd x.c=b:=⟨_,rfl⟩;rw[e]at c ⊢;obtain⟨⟨who,lo,hi,es,root⟩,em⟩:=x;unfold Cw.cells at *;dsimp only at *;simp only[bz,aS]at c;refine Yg ML ?_;simp[ML,a];refine Yc (c) ?_;simp;cases b
 .exact oS
 .exact oS
def TT(x:Cw)(a:x.ok)(V:List gT)(v:V.l<=64):Wf T 22 [.agg x.cells,iS V] [] (Is (.b (s9 V x.c))):=by
 have c:=aif x a V.l;have k:=a.root;have p:=a.em;have r:=a.lo;have z:=a.hi;unfold s9
 have l:kq V.l x.c=aE->0<=x.c.lo/\x.c.lo<=x.c.hi/\(x.c.es.l:Int)=x.c.hi-x.c.lo/\x.c.hi<=V.l:=λh=>by unfold kq at h;rw[di,decide_eq_true_iff]at h;have:=L8 h.1;exact⟨this.1,this.2.1,this.2.2,h.2⟩
 have q:∀i,lW x.c i=gt x.c.es (i-x.c.lo):=λ_=>rfl;obtain⟨b,o⟩:∃b,kq V.l x.c=b:=⟨_,rfl⟩;rw[o]at c l ⊢;simp only[q];obtain⟨⟨who,lo,hi,es,root⟩,em⟩:=x;unfold Cw.cells at *;dsimp only at *;simp only[bz,aS]at c;cases b
 .refine Yg Fh ?_;simp[Fh,k];refine Yc (c) ?_;simp
 .obtain⟨u,t,l2,s⟩:=l rfl;rw[eW];refine Yg Fh ?_;simp[Fh,k];refine Yc (c) ?_;simp;refine gZ.e lo (λy=>[(1,iS V),(2,.ptr 0 0 0),(5,.i y)]) (λy=>[.row 72 0 (D.i who::D.i lo::D.i hi::dE em es::cl fU root)]) (λy=>(lo<=y/\y<=hi)/\∀j:Int,lo<=j->j<y->gt es (j-lo)=gt V j) (λy=>(hi-y).n) ?_ ?_
  .exact⟨iz,λj j0 j1=>U⟩
  rintro i ⟨⟨i0,n⟩,g⟩;dsimp only at i0 n g ⊢
  by_cases d:i<hi
  .have f:em=false:=by
    cases em
    .rfl
    .have:=p rfl;rw[this]at l2;simp at l2;omega
   subst f
   have hP:(∀j:Int,lo<=j->j<hi->gt es (j-lo)=gt V j)->(gt es (i-lo)).1=(gt V i).1/\(gt es (i-lo)).2=(gt V i).2:=λh=>by rw[h i i0 d];exact⟨rfl,rfl⟩
   simp[d,dE];(with_reducible repeat' first|refine Xk ?_<;>try simp|refine Xs ?_ ?_<;>intro h<;>(try intro w)<;>(try simp[h])<;>try omega|refine Xg ?_|omega)
   .refine LJ.e (i+1) ?_;refine⟨U,jc,λj j0 j1=>?_⟩
    by_cases e:j=i
    .rw[e];exact cZ km km
    .exact g j j0 U
   .exact⟨i,i0,d,λe=>h ⟨by rw[e],by rw[e]⟩⟩
  .have m:i=hi:=by omega
   subst m;simp;exact g
def PY(L:List Cw)(V:List gT):Prop:=∀i:Int,0<=i->i<V.l->∃x∈L,kN x.c i=aE/\s9 V x.c=aE
def ahY(L:List Cw)(A:∀x∈L,x.ok)(C:L.l<=4000000000)(V:List gT)(B:V.l<=64):Wf T 21 [.sl 36 (L.map iW),iS V] [] (Is (.b (decide (PY L V)))):=by
 refine Yg Fg ?_;simp[Fg];refine gZ.e (0:Int) (λy=>[(0,.sl 36 (L.map iW)),(1,iS V),(5,.i y)]) (λy=>[]) (λy=>(0<=y/\y<=V.l)/\∀i:Int,0<=i->i<y->∃x∈L,kN x.c i=aE/\s9 V x.c=aE) (λy=>(V.l-y).n) ?_ ?_
 .exact⟨gP,λj j0 j1=>U⟩
 rintro i ⟨⟨i0,v⟩,n⟩;dsimp only at i0 v n ⊢
 by_cases hi:i<V.l
 .simp[hi];refine gZ.e ((0,ez):Int×Bool) (λy=>[(0,.sl 36 (L.map iW)),(1,iS V),(5,.i i),(6,.b y.2),(7,.i y.1)]) (λy=>[]) (λy=>(0<=y.1/\y.1<=L.l)/\(y.2=aE↔∃x∈L.take y.1.n,kN x.c i=aE/\s9 V x.c=aE)) (λy=>(L.l-y.1).n) ?_ ?_
  .simp
  rintro⟨k,b⟩ ⟨⟨k0,k1⟩,d⟩;dsimp only at k0 k1 d ⊢
  by_cases m:k<L.l
  .have e:=H9 (l:=L) k0 m;have a:=A _ (ij k0 m);have o:=aie (gt L k) a i;have c2:=TT (gt L k) a V B
   have c:(∃x∈L.take (k+1).n,kN x.c i=aE/\s9 V x.c=aE)↔(b||(kN (gt L k).c i&&s9 V (gt L k).c))=true:=by
    rw[e,bM,d,di];constructor
    .rintro⟨x,a,h⟩;rcases ai.1 a with a|a
     .exact .inl ⟨x,a,h⟩
     .rw[cc]at a;subst a;exact .inr h
    .rintro(⟨x,a,h⟩|h)
     .exact⟨x,bp _ a,h⟩
     .exact⟨_,bK _ (cc.2 rfl),h⟩
   rw[<-Qj a]at o c2;have g:(iW (gt L k)).l=36:=Fl.len _;obtain⟨p,z⟩:∃p,kN (gt L k).c i=p:=⟨_,rfl⟩;obtain⟨q,w⟩:∃q,s9 V (gt L k).c=q:=⟨_,rfl⟩;rw[z]at o c;rw[w]at c2 c;have r:iB (iW (gt L k))=true:=Fl.cl _;have f:(iW (gt L k)).take 36=iW (gt L k):=af U;cases b
   .simp[m];refine ko g f ?_;simp[g,f];refine ik.c rfl rfl o (by simp[r]) gP ?_;cases p
    .simp;refine gU ?_;refine LJ.e (k+1,ez) ?_;exact⟨U,jc,by rw[c];simp⟩
    .simp;refine ko g f ?_;simp[g,f];refine ik.c rfl rfl c2 (by simp[r]) gP ?_;simp;refine gU ?_;refine LJ.e (k+1,q) ?_;exact⟨U,jc,by rw[c];simp⟩
   .simp[m];refine gU ?_;refine LJ.e (k+1,aE) ?_;exact⟨U,jc,by rw[c];simp⟩
  .have s:k=L.l:=by omega
   subst s;rw[af U]at d;cases b
   .simp;refine gU ?_
    have t:¬PY L V:=λh=>by obtain⟨x,a⟩:=h i i0 hi;have:=d.2 ⟨x,a⟩;cases this
    exact t
   .simp;refine gU ?_;refine LJ.e (i+1) ?_;refine⟨U,jc,λj j0 j1=>?_⟩
    by_cases e:j=i
    .rw[e];exact d.1 rfl
    .exact n j j0 U
 .have u:i=V.l:=by omega
  subst u;simp;exact n
structure ISl(l:List Int)(d:D):Prop where
 cl:closed d=aE
 len:∀H,od .slice d H=cp (.i l.l)
 idx:∀(n:Int) (k:IntKind) (P:D->Prop),oA (ot 1 d (.val (.int k n))) P .mk=((0<=n/\n<l.l)/\P (.ie [.i (gt l n)]))
structure RSl(l:List gT)(d:D):Prop where
 cl:closed d=aE
 len:∀H,od .slice d H=cp (.i l.l)
 idx:∀(n:Int) (k:IntKind) (P:D->Prop),oA (ot 2 d (.val (.int k n))) P .mk=((0<=n/\n<l.l)/\P (.ie [.i (gt l n).1,.i (gt l n).2]))
set_option maxHeartbeats 8000000
def Bt(R:List Cw):D:=if R = []then .gV else .sl 36 (R.map iW)
def yj(m:Int)(r:gT):Int:=if r.1≠2/\(m<0\/r.2<m)then r.2 else m
def zo(l:List gT):Int:=l.foldl yj (-1)
def alT(l:List gT)(r:gT):zo (l ++ [r])=yj (zo l) r:=by unfold zo;rw[ek];rfl
def dd(a b:Int)(q:gT):(!decide (a=q.1) || !decide (b=q.2)) = !decide ((a,b)=q):=by obtain⟨x,y⟩:=q;rw[<-Bool.not_and,<-eu];congr 1;exact decide_eq_decide.2 gP
def Cw.full(x:Cw):Prop:=x.ok/\(x.c.lo<x.c.hi->(x.c.es.l:Int)=x.c.hi-x.c.lo)
def Cw.abn{x:Cw}(h:x.full){i:Int}(a:kN x.c i=aE):x.em=ez/\x.c.lo<=i/\i-x.c.lo<x.c.es.l:=by
 unfold kN at a;rw[decide_eq_true_iff]at a;have b:=h.2 U;refine⟨?_,a.1,U⟩
 cases e:x.em with
 | false=>rfl
 | true=>
  have:=h.1.em e;rw[this]at b;simp at b;omega
def cs(L:List Cw):List iF:=L.map Cw.c
def lq(p:iF->Bool):List iF->Nat->List Int
 | _,0=>[]
 | cl,n+1=>if p (gt cl (n:Int))=aE then lq p cl n ++ [(n:Int)]else lq p cl n
end Go.Proofs.YtmehofoficaelaaGreatDoor
namespace Go.Proofs.YtmehofoficaelaaGreatDoor
open Go Go.AL Classical
def idx(p:iF->Bool)(cl:List iF):List Int:=(upto cl.l).filter λk=>p (gt cl k)
def EA{p:iF->Bool}{cl:List iF}{k:Int}:k∈idx p cl↔(0<=k/\k<cl.l)/\p (gt cl k)=true:=by unfold idx;rw[aH,l8]
def Aw{p:iF->Bool}{cl:List iF}:idx p cl≠[]↔∃c∈cl,p c=true:=by
 constructor
 .intro h;obtain⟨k,a⟩:=de _ h;rw[EA]at a;exact⟨_,ij a.1.1 a.1.2,a.2⟩
 .rintro⟨c,d,b⟩ h;obtain⟨k,k0,k1,rfl⟩:=th.1 d;have:k∈idx p cl:=EA.2 ⟨⟨k0,k1⟩,b⟩;rw[h]at this;cases this
inductive Jd where
 | v (a:Int) (l:List Int)
 | none
 | De
 deriving DecidableEq
def IZ(cl:List iF)(a i:Int):Int:=if om (sd cl i)=aE/\(a<0\/nD (sd cl i)<nD (sd cl a))then i else a
def mu(cl:List iF)(n:Nat):Int:=(upto n).foldl (IZ cl) (-1)
noncomputable def o6(A:mM)(n:Nat)(ad:iF->Bool)(cl:List iF):Jd:=
 if idx (λc => !ad c) cl≠[]then .v (-1) (idx (λc => !ad c) cl)
 else if∃i∈upto n,sd cl i = []then .De
 else match (upto n).find? λi=>decide (idx (λc=>kN c i && !mJ (lW c i)) cl≠[])with
  | some i=>.v i (idx (λc=>kN c i && !mJ (lW c i)) cl)
  | Option.none=>if mu cl n<0 then .none else .v (mu cl n) (idx (tu A cl (mu cl n)) cl)
def Ml(n:Nat):upto (n+1)=upto n ++ [(n:Int)]:=by simp[upto,gD]
theorem IY(cl:List iF):∀n:Nat,(mu cl n = -1/\∀j:Int,0<=j->j<n->om (sd cl j)=ez) \/
  ((0<=mu cl n/\mu cl n<n)/\om (sd cl (mu cl n))=aE/\∀j:Int,0<=j->j<n->om (sd cl j)=aE->nD (sd cl (mu cl n))<=nD (sd cl j))
 | 0=>.inl ⟨rfl,λj h0 h1=>U⟩
 | n+1=>by
  have e:mu cl (n+1)=IZ cl (mu cl n) n:=by unfold mu;rw[Ml,ek];rfl
  rw[e];generalize c:mu cl n=a;have b:=IY cl n;rw[c]at b;unfold IZ
  by_cases d:om (sd cl n)=aE
  .grind
  .grind
def zH(V:List gT)(ad:iF->Bool)(c:iF):Prop:=ad c=aE/\∀i,kN c i=aE->lW c i=gt V i
section
variable{A:mM}{V:List gT}{cl:List iF}{n:Nat}{ad:iF->Bool}
theorem ald(iG:∀i:Int,0<=i->i<n->∀k∈gt A.nx i,0<=k/\k<n)(hV:∀i:Int,0<=i->i<n->kE A V i)(tO:∀i:Int,0<=i->i<n->mJ (gt V i)=aE)
  (w:∀i:Int,0<=i->i<n->∃c∈cl,zH V ad c/\kN c i=aE) (y:∀c,ad c=aE->∀i,kN c i=aE->0<=i/\i<n) {a:Int} {l:List Int} (h:o6 A n ad cl = .v a l) :
  l≠[]/\(-1<=a/\a<n)/\∀k∈l,¬zH V ad (gt cl k):=by
 unfold o6 at h;split at h
 .rename_i v;cases h;exact⟨v,U,λk f g=>by have:=(EA.1 f).2;rw[g.1]at this;cases this⟩
 rename_i q;split at h
 .cases h
 have q:∀c∈cl,ad c=true:=λc u=>by
  cases e:ad c with
  | true=>rfl
  | false=>exact absurd (Aw.2 ⟨c,u,by simp[e]⟩) q
 split at h
 .rename_i i hi;cases h;have h1:=List.find?_some hi;have b:=fV hi;rw[l8]at b;refine⟨by simpa using h1,U,λk f g=>?_⟩;have d:=(EA.1 f).2;simp only[di,eP]at d;rw[g.2 _ d.1,tO _ b.1 b.2]at d;cases d.2
 .rename_i m;split at h
  .cases h
  rename_i z;cases h
  have s:∀i:Int,0<=i->i<n->∀r∈sd cl i,mJ r=true:=λi i0 j r t=>by
   rw[dR]at m;have:=m i (l8.2 ⟨i0,j⟩);obtain⟨c,h1,b,rfl⟩:=uD.1 t
   cases e:mJ (lW c i)with
   | true=>rfl
   | false=>exact absurd (Aw (p:=λc=>kN c i && !mJ (lW c i)) |>.2 ⟨c,h1,by simp[b,e]⟩) (by simpa using this)
  rcases IY cl n with⟨e,_⟩|⟨h1,b,d⟩
  .omega
  refine⟨Aw.2 (afq (s _ h1.1 h1.2) b),U,λk f g=>?_⟩;have o:=EA.1 f;have x:kN (gt cl k) (mu cl n)=true:=by have:=o.2;unfold tu at this;rw[di]at this;exact this.1
  have:=auk (cl:=cl) (N:=(n:Int)) iG hV (λi i0 j=>by
   obtain⟨c,q1,q2,q3⟩:=w i i0 j
   exact uD.2 ⟨c,q1,q3,q2.2 i q3⟩) h1.1 h1.2 d (c:=gt cl k) (g.2 _ x)
  rw[o.2]at this;cases this
theorem aco(h:o6 A n ad cl = .none):(∀c∈cl,ad c=aE)/\∀i:Int,0<=i->i<n->sd cl i≠[]/\om (sd cl i)=false:=by
 unfold o6 at h;split at h
 .cases h
 rename_i d;split at h
 .cases h
 rename_i a
 refine⟨λc a=>by
  cases e:ad c with
  | true=>rfl
  | false=>exact absurd (Aw.2 ⟨c,a,(by show(!ad c)=aE;rw[e];rfl)⟩) d,?_⟩
 split at h
 .cases h
 split at h
 .rename_i f;rcases IY cl n with⟨_,e⟩|⟨h1,_,_⟩
  .exact λi i0 b=>⟨λh0=>a ⟨i,l8.2 ⟨i0,b⟩,h0⟩,e i i0 b⟩
  .omega
 .cases h
theorem ak8(h:o6 A n ad cl = .De):∃i:Int,(0<=i/\i<n)/\sd cl i = []:=by
 unfold o6 at h;split at h
 .cases h
 split at h
 .rename_i a;obtain⟨i,hi,e⟩:=a;exact⟨i,l8.1 hi,e⟩
 split at h
 .cases h
 split at h<;>cases h
end
@[simp] theorem aBC(o:Int):kA [] o = []:=rfl
@[simp] theorem aBy:vC [] = -1:=rfl
@[simp] theorem aBx:AG [] = -1:=rfl
theorem amd(l:List Int)(x:Int):vC (l ++ [x])=if l = []then x else min (vC l) x:=by
 cases l with
 | nil=>rfl
 | cons a r=>simp[vC,ek]
def alS{l:List gT}(h:∀r∈l,r.1≠2->0<=r.2):zo l=nD l:=by
 suffices ∀(l m:List gT),(∀r∈m++l,r.1≠2->0<=r.2)->l.foldl yj (nD m)=nD (m++l)from by have:=this l [] (by simpa using h);rw[aS]at this;exact this
 intro l
 induction l with
 | nil=>intro m _;simp
 | cons a r i=>
  intro m c;rw[cK]
  have e:yj (nD m) a=nD (m ++ [a]):=by
   unfold yj;have g:=c a gP;unfold nD;rw[bY,er]
   by_cases d:a.1=2
   .grind
   .have g:=g d;have hs:((([a]:List gT).filter λr=>decide (r.1≠2)).map λr=>r.2) = [a.2]:=by simp[d]
    rw[hs,amd]
    by_cases b:((m.filter λr=>decide (r.1≠2)).map λr=>r.2) = []
    .rw[if_pos b,b];rw[if_pos ⟨d,.inl jo⟩]
    .rw[if_neg b];have j:=Cp b;obtain⟨q,f,n⟩:=aj.1 j;rw[aH]at f;have k:=c q (by simp[f.1]) (by simpa using f.2)
     by_cases hl:a.2<vC ((m.filter λr=>decide (r.1≠2)).map λr=>r.2)
     .grind
     .grind
  rw[e,i (m ++ [a]) (by simpa using c)];simp
def zY(cl:List iF)(n j:Int):gT:=if om (sd cl j)=ez/\(pd (sd cl j)).2<n then pd (sd cl j)else(2,0)
def adp(A:mM)(cl:List iF)(i n:Int):Lj A cl i n=(gt A.nx i).map (zY cl n):=rfl
theorem acm{p q:iF->Bool}{cl:List iF}:∀ {n:Nat},n<=cl.l->(∀c∈cl,p c=q c)->lq p cl n=lq q cl n
 | 0,_,_=>rfl
 | n+1,h,hp=>by rw[lq,lq,acm U hp,hp _ (ij U U)]
def ye(p:iF->Bool)(cl:List iF):lq p cl cl.l=idx p cl:=by
 unfold idx
 suffices ∀n:Nat,lq p cl n=(upto n).filter λk=>p (gt cl k)from this _
 intro n
 induction n with
 | zero=>rfl
 | succ n a=>
  rw[lq,a,Ml,bY]
  by_cases h:p (gt cl (n:Int))=aE
  .grind
  .grind
def oD(left ls:List Int):List Int:=((upto left.l).filter λp => !ls.contains p).map λp=>gt left p
noncomputable def E'(A:mM)(n:Nat)(ad:iF->Bool)(cl:List iF):Nat->List Int->List Int×Jd
 | 0,left=>(left,.none)
 | f+1,left=>match o6 A n ad (left.map λk=>gt cl k)with
  | .v _ ls=>E' A n ad cl f (oD left ls)
  | j=>(left,j)
def adj{left ls:List Int}{k:Int}:k∈oD left ls↔∃p:Int,(0<=p/\p<left.l)/\p ∉ ls/\gt left p=k:=by
 unfold oD;rw[aj];constructor
 .rintro⟨p,a,e⟩;rw[aH,l8]at a;exact⟨p,a.1,by simpa using a.2,e⟩
 .rintro⟨p,h1,b,e⟩;exact⟨p,aH.2 ⟨l8.2 h1,by simpa using b⟩,e⟩
def aem{left ls:List Int}{k:Int}(h:k∈oD left ls):k∈left:=by obtain⟨p,h1,_,rfl⟩:=adj.1 h;exact ij h1.1 h1.2
def ru(n:Nat):(upto n).l=n:=by simp[upto]
def aek{left ls:List Int}{p:Int}(c:p∈ls)(h0:0<=p)(h1:p<left.l):(oD left ls).l<left.l:=by
 unfold oD;rw[ej];have a:=List.length_filter_le (λp => !ls.contains p) (upto left.l);rw[ru]at a;refine Nat.lt_of_le_of_ne a λe=>?_;have:(upto left.l).l=left.l:=ru _;rw[<-this]at e;rw[this]at e;have b:((upto left.l).filter λp => !ls.contains p).l=(upto left.l).l:=by rw[e,this]
 rw[e7]at b;have:=b p (l8.2 ⟨h0,h1⟩);simp[c]at this
section
variable{A:mM}{V:List gT}{cl:List iF}{n:Nat}{ad:iF->Bool}
theorem ajI{left:List Int}{p:Int}(h0:0<=p)(h1:p<left.l):gt (left.map λk=>gt cl k) p=gt cl (gt left p):=by rw[jU h0 (by rw[ej];exact h1),br,jU h0 h1]
theorem aeT(iG:∀i:Int,0<=i->i<n->∀k∈gt A.nx i,0<=k/\k<n)(hV:∀i:Int,0<=i->i<n->kE A V i)(tO:∀i:Int,0<=i->i<n->mJ (gt V i)=aE)
  (t:∀c,ad c=aE->∀i,kN c i=aE->0<=i/\i<n) :
  ∀(f:Nat) (left:List Int),left.l<f->(∀k∈left,0<=k/\k<cl.l)->(∀i:Int,0<=i->i<n->∃k∈left,zH V ad (gt cl k)/\kN (gt cl k) i=aE) ->
   (∀k:Int,0<=k->k<cl.l->zH V ad (gt cl k)->k∈left) ->
   ∃L,E' A n ad cl f left=(L,.none)/\(∀k,k∈L↔(0<=k/\k<cl.l)/\zH V ad (gt cl k))/\(∀k∈L,k∈left)/\∀i:Int,0<=i->i<n->pd (sd (L.map λk=>gt cl k) i)=gt V i
 | 0,left,h,_,_,_=>U
 | f+1,left,h,o,hc,g=>by
  have u:∀i:Int,0<=i->i<n->∃c∈left.map (λk=>gt cl k),zH V ad c/\kN c i=true:=λi i0 d=>by obtain⟨k,h1,l⟩:=hc i i0 d;exact⟨_,aj.2 ⟨k,h1,rfl⟩,l⟩
  rw[E']
  cases b:o6 A n ad (left.map λk=>gt cl k)with
  | v a ls=>
   obtain⟨h1,l,C⟩:=ald iG hV tO u t b;obtain⟨p,s⟩:=de _ h1
   have G:∀p∈ls,0<=p/\p<left.l:=by
    have:∀(q:iF->Bool),∀p∈idx q (left.map λk=>gt cl k),0<=p/\p<left.l:=λq p s=>by have:=(EA.1 s).1;rw[ej]at this;exact this
    unfold o6 at b;split at b
    .cases b;exact this _
    split at b
    .cases b
    split at b
    .cases b;exact this _
    split at b
    .cases b
    .cases b;exact this _
   have x:=G p s
   have keep:∀k∈left,zH V ad (gt cl k)->k∈oD left ls:=λk g j=>by obtain⟨q,q0,q1,rfl⟩:=th.1 g;refine adj.2 ⟨q,⟨q0,q1⟩,λB=>?_,rfl⟩;have:=C q B;rw[ajI q0 q1]at this;exact this j
   obtain⟨L,F,e2,E,D⟩:=aeT iG hV tO t f (oD left ls) (by have:=aek s x.1 x.2;omega) (λk g=>o k (aem g)) (λi i0 d=>by
    obtain⟨k,k1,k2,k3⟩:=hc i i0 d
    exact⟨k,keep k k1 k2,k2,k3⟩) (λk k0 k1 j=>keep k (g k k0 k1 j) j)
   exact⟨L,F,e2,λk g=>aem (E k g),D⟩
  | none=>
   obtain⟨h1,l⟩:=aco b
   have z:∀i:Int,0<=i->i<n->∀r∈sd (left.map λk=>gt cl k) i,r=gt V i:=λi i0 d r o=>by obtain⟨c,q1,q2,q3⟩:=u i i0 d;have y:=P7.1 (l i i0 d).2;rw[y r o,<-q2.2 i q3];exact(y _ (uD.2 ⟨c,q1,q3,rfl⟩)).symm
   refine⟨left,rfl,λk=>⟨λm=>⟨o k m,?_,λi hi=>?_⟩,λj=>g k j.1.1 j.1.2 j.2⟩,λk g=>g,λi i0 d=>z i i0 d _ (F' (l i i0 d).1)⟩
   .exact h1 _ (aj.2 ⟨k,m,rfl⟩)
   .have w:=h1 _ (aj.2 ⟨k,m,rfl⟩);obtain⟨i0,d⟩:=t _ w i hi;exact z i i0 d _ (uD.2 ⟨_,aj.2 ⟨k,m,rfl⟩,hi,rfl⟩)
  | De=>
   obtain⟨i,hi,e⟩:=ak8 b;obtain⟨c,q1,q2,q3⟩:=u i hi.1 hi.2;have:lW c i∈sd (left.map λk=>gt cl k) i:=uD.2 ⟨c,q1,q3,rfl⟩;rw[e]at this;cases this
end
theorem aa9{p:Int->Bool}:∀ {n:Nat} {i:Int},0<=i->i<n->p i=aE->(∀j:Int,0<=j->j<i->p j=ez)->(upto n).find? p=cp i
 | 0,i,h0,h1,_,_=>U
 | n+1,i,h0,h1,hp,hn=>by
  rw[Ml,List.find?_append]
  by_cases e:i=n
  .have:(upto n).find? p=none:=dR.2 λj a=>by rw[l8]at a;rw[hn j a.1 U];simp
   rw[this,e];rw[e]at hp;simp[hp]
  .rw[aa9 h0 U hp hn];rfl
def ajr{p:Int->Bool}{n:Nat}(h:∀j:Int,0<=j->j<n->p j=ez):(upto n).find? p=none:=
 dR.2 λj a=>by rw[l8]at a;rw[h j a.1 a.2];simp
section
variable{A:mM}{n:Nat}{ad:iF->Bool}{cl:List iF}
def imp(cl:List iF)(i:Int):List Int:=lq (λc=>kN c i && !mJ (lW c i)) cl cl.l
theorem ak6(h:lq (λc => !ad c) cl cl.l≠[]):o6 A n ad cl = .v (-1) (lq (λc => !ad c) cl cl.l):=by unfold o6;rw[ye]at h ⊢;rw[if_pos h]
theorem ak9(h:lq (λc => !ad c) cl cl.l = []){i:Int}(i0:0<=i)(a:i<n)(hi:sd cl i = []):o6 A n ad cl = .De:=by unfold o6;rw[ye]at h;rw[if_neg (λq=>q h),if_pos ⟨i,l8.2 ⟨i0,a⟩,hi⟩]
theorem ala(h:lq (λc => !ad c) cl cl.l = [])(hs:∀j:Int,0<=j->j<n->sd cl j≠[]){i:Int}(i0:0<=i)(b:i<n)(hi:imp cl i≠[])(a:∀j:Int,0<=j->j<i->imp cl j = []):o6 A n ad cl = .v i (imp cl i):=by
 unfold o6;rw[ye]at h;rw[if_neg (λq=>q h),if_neg]
 .rw[aa9 i0 b]
  .show Jd.v i _=_;unfold imp;rw[ye]
  .rw[decide_eq_true_iff,<-ye];exact hi
  .intro j j0 j1;rw[decide_eq_false_iff_not,<-ye];exactλq=>q (a j j0 j1)
 .rintro⟨j,a,e⟩;rw[l8]at a;exact hs j a.1 a.2 e
theorem ak7(h:lq (λc => !ad c) cl cl.l = [])(hs:∀j:Int,0<=j->j<n->sd cl j≠[])(a:∀j:Int,0<=j->j<n->imp cl j = []):o6 A n ad cl=if mu cl n<0 then .none else .v (mu cl n) (lq (tu A cl (mu cl n)) cl cl.l):=by
 unfold o6;rw[ye]at h;rw[if_neg (λq=>q h),if_neg]
 .rw[ajr λj j0 j1=>by
   rw[decide_eq_false_iff_not,<-ye]
   exactλq=>q (a j j0 j1)]
  rw[ye]
 .rintro⟨j,a,e⟩;rw[l8]at a;exact hs j a.1 a.2 e
theorem imp_nil{i:Int}(h:imp cl i = []):∀r∈sd cl i,mJ r=true:=λr a=>by
 obtain⟨c,b,h1,rfl⟩:=uD.1 a;unfold imp at h;rw[ye]at h
 cases e:mJ (lW c i)with
 | true=>rfl
 | false=>exact absurd h (Aw.2 ⟨c,b,by simp[h1,e]⟩)
end
abbrev lr:=List (gT×List Int)
def pV(r:gT)(k:Int):lr->lr
 | []=>[(r,[k])]
 | (q,x)::t=>if q=r then(q,x ++ [k])::t else(q,x)::pV r k t
def rE(p:iF->Bool)(s:iF->gT)(cl:List iF):Nat->lr
 | 0=>[]
 | n+1=>if p (gt cl (n:Int))=aE then pV (s (gt cl (n:Int))) n (rE p s cl n)else rE p s cl n
theorem Ck{p:iF->Bool}{cl:List iF}{k:Int}:∀ {n:Nat},k∈lq p cl n↔(0<=k/\k<n)/\p (gt cl k)=aE
 | 0=>by simp[lq];omega
 | n+1=>by
  rw[lq]
  by_cases h:p (gt cl (n:Int))=aE
  .rw[if_pos h,ai,Ck,cc];constructor
   .grind
   .grind
  .rw[if_neg h,Ck];constructor
   .grind
   .grind
theorem G7(p:iF->Bool)(cl:List iF):∀n:Nat,(lq p cl n).Pairwise (· < ·)
 | 0=>.nil
 | n+1=>by
  rw[lq]
  by_cases h:p (gt cl (n:Int))=aE
  .rw[if_pos h,bw]
   exact⟨G7 p cl n,List.pairwise_singleton _ _,λa d b c=>by
    rw[cc]at c;have:=(Ck.1 d).1
    omega⟩
  .rw[if_neg h];exact G7 p cl n
def wF(r:gT):lr->List Int
 | []=>[]
 | (q,x)::t=>if q=r then x else wF r t
theorem Wy{r q:gT}{k:Int}:∀ {G:lr},q∈(pV r k G).map (·.1)↔q=r\/q∈G.map (·.1)
 | []=>by simp[pV]
 | (a,x)::t=>by
  rw[pV]
  by_cases h:a=r
  .grind
  .rw[if_neg h,bf,ak,Wy,bf,ak];constructor
   .grind
   .grind
theorem abq{r:gT}{k:Int}:∀ {G:lr},(G.map (·.1)).Nodup->((pV r k G).map (·.1)).Nodup
 | [],_=>by simp[pV]
 | (a,x)::t,h=>by
  rw[bf,bT]at h;rw[pV]
  by_cases e:a=r
  .grind
  .rw[if_neg e,bf,bT];refine⟨λb=>?_,abq h.2⟩;rcases Wy.1 b with h1|h1
   .exact e h1
   .exact h.1 h1
theorem acS{r q:gT}{k:Int}:∀ {G:lr},wF q (pV r k G)=if q=r then wF q G ++ [k]else wF q G
 | []=>by
  by_cases h:q=r
  .subst h;simp[pV,wF]
  .rw[if_neg h];simp[pV,wF,cP h]
 | (a,x)::t=>by
  rw[pV]
  by_cases e:a=r
  .subst e;rw[if_pos rfl]
   by_cases h:q=a
   .subst h;simp[wF]
   .rw[if_neg h];simp[wF,cP h]
  .rw[if_neg e,wF,wF,acS]
   by_cases h:a=q
   .grind
   .grind
theorem acT{q:gT}{x:List Int}:∀ {G:lr},(G.map (·.1)).Nodup->((q,x)∈G↔q∈G.map (·.1)/\x=wF q G)
 | [],_=>gP
 | (a,y)::t,h=>by
  rw[bf,bT]at h;rw[ak,acT h.2,bf,ak,wF]
  by_cases e:a=q
  .grind
  .grind
section
variable{p:iF->Bool}{s:iF->gT}{cl:List iF}
theorem JH:∀n:Nat,((rE p s cl n).map (·.1)).Nodup
 | 0=>.nil
 | n+1=>by
  rw[rE];split
  .exact abq (JH n)
  .exact JH n
theorem abw{q:gT}:∀n:Nat,wF q (rE p s cl n)=lq (λc=>p c&&decide (s c=q)) cl n
 | 0=>rfl
 | n+1=>by
  rw[rE,lq,<-abw n]
  by_cases h:p (gt cl (n:Int))=aE
  .rw[if_pos h,acS]
   by_cases e:q=s (gt cl (n:Int))
   .grind
   .grind
  .grind
theorem Qw{q:gT}:∀ {n:Nat},q∈(rE p s cl n).map (·.1)↔∃k:Int,(0<=k/\k<n)/\p (gt cl k)=aE/\s (gt cl k)=q
 | 0=>by
  constructor
  .intro h;simp[rE]at h
  .grind
 | n+1=>by
  rw[rE]
  by_cases h:p (gt cl (n:Int))=aE
  .rw[if_pos h,Wy,Qw];constructor
   .grind
   .grind
  .rw[if_neg h,Qw];constructor
   .grind
   .grind
theorem Ug{q:gT}{x:List Int}{n:Nat}(h:(q,x)∈rE p s cl n):x=lq (λc=>p c&&decide (s c=q)) cl n/\x≠[]:=by
 have h1:=(acT (JH n)).1 h;rw[abw]at h1;refine⟨h1.2,λe=>?_⟩;obtain⟨k,d,b,a⟩:=Qw.1 h1.1;have:k∈x:=by rw[h1.2];exact Ck.2 ⟨d,by simp[b,a]⟩
 rw[e]at this;cases this
end
def iH(cl:List iF)(i:Int):lr:=rE (λc=>kN c i) (λc=>lW c i) cl cl.l
def z8{cl:List iF}{i:Int}{q:gT}:q∈(iH cl i).map (·.1)↔q∈sd cl i:=by
 unfold iH;rw[Qw,uD];constructor
 .rintro⟨k,h1,b,a⟩;exact⟨_,ij h1.1 h1.2,b,a⟩
 .rintro⟨c,h1,b,a⟩;obtain⟨k,k0,k1,rfl⟩:=th.1 h1;exact⟨k,⟨k0,k1⟩,b,a⟩
def Qy{cl:List iF}{i:Int}:(iH cl i).l=0↔sd cl i = []:=by
 rw[aA];constructor
 .intro h;refine a7.2 λq b=>?_;have:=z8.2 b;rw[h]at this;cases this
 .intro h
  cases e:iH cl i with
  | nil=>rfl
  | cons a t=>
   have:a.1∈sd cl i:=z8.1 (by rw[e];simp);rw[h]at this;cases this
def JI{cl:List iF}{i:Int}:1<(iH cl i).l↔om (sd cl i)=true:=by
 have f:((iH cl i).map (·.1)).Nodup:=JH _;constructor
 .intro h
  cases c:om (sd cl i)with
  | true=>rfl
  | false=>
   have c:=P7.1 c
   match e:iH cl i,h with
   | a::b::t,_=>
    rw[e]at f;have k:a.1∈sd cl i:=z8.1 (by rw[e];simp);have j:b.1∈sd cl i:=z8.1 (by rw[e];simp);simp only[bf,bT,ak,not_or]at f;exact absurd ((c _ k).trans (c _ j).symm) f.1.1
 .intro h;unfold om at h;rw[gu]at h;obtain⟨r,d,h1⟩:=h;have h1:r≠pd (sd cl i):=by simpa using h1
  have g:pd (sd cl i)∈sd cl i:=F' λe=>by rw[e]at d;cases d
  have a:=z8.2 d;have b:=z8.2 g
  match e:iH cl i with
  | []=>rw[e]at a;cases a
  | [x]=>
   rw[e]at a b;simp only[bf,List.map_nil,cc]at a b;exact absurd (a.trans b.symm) h1
  | x::y::t=>simp
def abx{cl:List iF}{i:Int}{x:gT×List Int}(h:iH cl i = [x]):x.1=pd (sd cl i):=by
 have h1:x.1∈sd cl i:=z8.1 (by rw[h];simp)
 have a:om (sd cl i)=false:=by
  cases e:om (sd cl i)with
  | false=>rfl
  | true=>
   have:=JI.2 e;rw[h]at this;simp at this
 exact P7.1 a _ h1
def alV{a b:List gT}(h:∀r,r∈a↔r∈b):nD a=nD b:=by
 unfold nD;have c:∀n,n∈(a.filter λr=>decide (r.1≠2)).map (λr=>r.2)↔n∈(b.filter λr=>decide (r.1≠2)).map (λr=>r.2):=λn=>pK;obtain⟨A,g⟩:∃A,(a.filter λr=>decide (r.1≠2)).map (λr=>r.2)=A:=⟨_,rfl⟩;obtain⟨B,f⟩:∃B,(b.filter λr=>decide (r.1≠2)).map (λr=>r.2)=B:=⟨_,rfl⟩;rw[g,f]at c ⊢
 by_cases e:A = []
 .have:B = []:=a7.2 λn d=>by grind
  rw[e,this]
 .have e2:B≠[]:=λq=>e (a7.2 λn d=>kM);exact Int.le_antisymm (EB ((c _).2 (Cp e2))) (EB ((c _).1 (Cp e)))
theorem HW:∀ {a b:List Int},a.Pairwise (· < ·)->b.Pairwise (· < ·)->(∀k,k∈a↔k∈b)->a=b
 | [],[],_,_,_=>rfl
 | [],y::t,_,_,h=>by have:=(h y).2 gP;cases this
 | x::t,[],_,_,h=>by have:=(h x).1 gP;cases this
 | x::s,y::t,ha,hb,h=>by
  rw[aI]at ha hb
  have e:x=y:=by
   rcases ak.1 ((h x).1 gP)with e|e
   .exact e
   .rcases ak.1 ((h y).2 gP)with c|c
    .exact c.symm
    .grind
  subst e;congr 1;refine HW ha.2 hb.2 λk=>?_;have:=h k;rw[ak,ak]at this;constructor
  .grind
  .grind
def KS:KK:=.ints [.i64,.i64]
def mH(r:gT):Value:=.agg #[.int .i64 r.1,.int .i64 r.2]
def oI(v:Nat)(x:List Int):D:=.gR v (x.l-1) 1 0 x.l
def tj(x:List Int):Ob:=.row 3 (x.l-1) (cl f1 x)
def jN(Q:Nat->Nat):Nat->lr->List (Value×D)
 | _,[]=>[]
 | i,(q,x)::t=>(mH q,oI (Q i) x)::jN Q (i+1) t
def pW(r:gT):lr->Option (Nat×List Int)
 | []=>none
 | (q,x)::t=>if q=r then cp (0,x)else(pW r t).map λp=>(p.1+1,p.2)
def acy(a b:gT):oz (mH a) (mH b)=decide (a=b):=by
 obtain⟨f,e⟩:=a;obtain⟨d,b2⟩:=b;unfold mH oz
 by_cases h1:f=d
 .by_cases c:e=b2
  .simp_all
  .simp[c]
 .simp[h1]
theorem Ws(Q:Nat->Nat)(r:gT):∀(G:lr) (i j:Nat),AF (mH r) (jN Q i G) j=(pW r G).map λp=>(j+p.1,oI (Q (i+p.1)) p.2)
 | [],_,_=>rfl
 | (q,x)::t,i,j=>by
  rw[jN,AF,acy,pW]
  by_cases h:q=r
  .subst h;simp
  .rw[if_neg (by simpa using cP h),if_neg h,Ws Q r t (i+1) (j+1)]
   cases pW r t with
   | none=>rfl
   | some p=>simp[bk,dj 1]
theorem Ww(Q:Nat->Nat)(r:gT)(d:D):∀(G:lr) (i:Nat),lF (jN Q i G) (mH r) d=match pW r G with
  | some p=>(jN Q i G).set p.1 (mH r,d)
  | none=>jN Q i G ++ [(mH r,d)]
 | [],_=>rfl
 | (q,x)::t,i=>by
  rw[jN,lF,acy,pW]
  by_cases h:q=r
  .subst h;simp
  .rw[if_neg (by simpa using cP h),if_neg h,Ww Q r d t (i+1)]
   cases pW r t with
   | none=>rfl
   | some p=>simp
theorem BD{r:gT}{k:Int}:∀ {G:lr} {t:Nat} {x:List Int},pW r G=cp (t,x)->G[t]? = cp (r,x)/\pV r k G=G.set t (r,x ++ [k])
 | [],_,_,h=>by cases h
 | (q,y)::g,t,x,h=>by
  rw[pW]at h;rw[pV]
  by_cases e:q=r
  .grind
  .rw[if_neg e]at h ⊢
   cases e2:pW r g with
   | none=>rw[e2]at h;cases h
   | some p=>
    rw[e2]at h;cases h;obtain⟨h1,a⟩:=BD (k:=k) (t:=p.1) (x:=p.2) e2;exact⟨by simpa using h1,by rw[a];simp⟩
theorem abr{r:gT}{k:Int}:∀ {G:lr},pW r G=none->pV r k G=G ++ [(r,[k])]
 | [],_=>rfl
 | (q,y)::g,h=>by
  rw[pW]at h;rw[pV]
  by_cases e:q=r
  .grind
  .rw[if_neg e]at h ⊢
   cases e2:pW r g with
   | none=>rw[abr e2];rfl
   | some p=>rw[e2]at h;cases h
@[simp] theorem Dm(Q:Nat->Nat):∀(G:lr) (i:Nat),(jN Q i G).l=G.l
 | [],_=>rfl
 | (q,x)::t,i=>by rw[jN,aF,Dm Q t,aF]
theorem xK(Q:Nat->Nat):∀(G:lr) (i t:Nat),(jN Q i G)[t]? = (G[t]?).map λx=>(mH x.1,oI (Q (i+t)) x.2)
 | [],_,_=>rfl
 | (q,x)::g,i,0=>rfl
 | (q,x)::g,i,t+1=>by rw[jN,cH,cH,xK Q g (i+1) t,bk,dj 1]
theorem aaw{Q Q':Nat->Nat}:∀ {G:lr} {i:Nat},(∀t,t<G.l->Q (i+t)=Q' (i+t))->jN Q i G=jN Q' i G
 | [],_,_=>rfl
 | (q,x)::g,i,h=>by
  have h0:=h 0 gP;rw[cu]at h0
  rw[jN,jN,h0,aaw (Q:=Q) (Q':=Q') λt a=>by
   have:=h (t+1) iz;rw[(U:i+(t+1)=i+1+t)]at this
   exact this]
theorem aax(Q:Nat->Nat){r:gT}{y:List Int}:∀(G:lr) (i t:Nat),t<G.l->jN Q i (G.set t (r,y))=(jN Q i G).set t (mH r,oI (Q (i+t)) y)
 | [],_,_,h=>by simp at h
 | (q,x)::g,i,0,_=>rfl
 | (q,x)::g,i,t+1,h=>by rw[eB,jN,jN,eB,aax Q g (i+1) t (by simpa using h),(U:i+1+t=i+(t+1))]
theorem aay(Q:Nat->Nat){r:gT}{y:List Int}:∀(G:lr) (i:Nat),jN Q i (G ++ [(r,y)])=jN Q i G ++ [(mH r,oI (Q (i+G.l)) y)]
 | [],_=>rfl
 | (q,x)::g,i=>by rw[bz,jN,jN,aay Q g (i+1),bz,aF,(U:i+1+g.l=i+(g.l+1))]
structure nI(H:gQ)(ck sr n:Nat)(M:Nat->lr)(ow:Nat->Nat×Nat×Nat)(P:Nat->Nat)(Q:Nat->Nat->Nat):Prop where
 fc:ow ck=(0,0,0)
 fs:ow sr=(1,0,0)
 row:H[sr]? = cp (.row 170 0 ((eL n).map λj=>D.im (P j)))
 mp:∀j,j<n->H[P j]? = cp (.map KS (jN (Q j) 0 (M j)))/\ow (P j)=(2,j,0)
 ls:∀j,j<n->∀t x,(M j)[t]? = cp x->H[Q j t]? = cp (tj x.2)/\ow (Q j t)=(3,j,t)
section
variable{H H':gQ}{ck sr n:Nat}{M:Nat->lr}{ow:Nat->Nat×Nat×Nat}{P:Nat->Nat}{Q:Nat->Nat->Nat}
theorem nI.mono(h:nI H ck sr n M ow P Q)(c:∀v o,H[v]? = cp o->v≠ck->H'[v]? = cp o):nI H' ck sr n M ow P Q:=by
 have b:∀v,ow v≠(0,0,0)->v≠ck:=λv g e=>g (by rw[e];exact h.fc);refine⟨h.fc,h.fs,c _ _ h.row (b _ (by rw[h.fs];simp)),λj d=>?_,λj d t x f=>?_⟩
 .obtain⟨h1,a⟩:=h.mp j d;exact⟨c _ _ h1 (b _ (by rw[a];simp)),a⟩
 .obtain⟨h1,a⟩:=h.ls j d t x f;exact⟨c _ _ h1 (b _ (by rw[a];simp)),a⟩
def yy(M:Nat->lr)(j:Nat)(G:lr):Nat->lr:=λi=>if i=j then G else M i
theorem nI.old(h:nI H ck sr n M ow P Q){j t:Nat}{r:gT}{x:List Int}{k:Int}(l:j<n)(s:pW r (M j)=cp (t,x))
  (h1:H'[P j]? = cp (.map KS ((jN (Q j) 0 (M j)).set t (mH r,oI (Q j t) (x ++ [k]))))) (A:H'[Q j t]? = cp (tj (x ++ [k])))
  (g:∀v o,H[v]? = cp o->v≠P j->v≠Q j t->ow v≠(0,0,0)->H'[v]? = cp o):nI H' ck sr n (yy M j (pV r k (M j))) ow P Q:=by
 obtain⟨p,m⟩:=BD (k:=k) s;have z:t<(M j).l:=(ae.1 p).1;have lt:=(h.ls j l t _ p).2;have f:=(h.mp j l).2;have b:∀v w,ow v≠ow w->v≠w:=λv w q e=>q (by rw[e]);refine⟨h.fc,h.fs,g _ _ h.row (b _ _ (by rw[h.fs,f];simp)) (b _ _ (by rw[h.fs,lt];simp)) (by rw[h.fs];simp),λi hi=>?_,λi hi u y c=>?_⟩
 .obtain⟨d,a⟩:=h.mp i hi;refine⟨?_,a⟩;unfold yy
  by_cases e:i=j
  .subst e;rw[if_pos rfl,h1,m,aax _ _ _ _ z,aR]
  .grind
 .unfold yy at c
  by_cases e:i=j
  .subst e;rw[if_pos rfl,m,bI]at c
   by_cases e2:t=u
   .grind
   .rw[if_neg e2]at c;obtain⟨d,a⟩:=h.ls i hi u y c;exact⟨g _ _ d (b _ _ (by rw[a,f];simp)) (b _ _ (by rw[a,lt];simp[cP e2])) (by rw[a];simp),a⟩
  .rw[if_neg e]at c;obtain⟨d,a⟩:=h.ls i hi u y c;exact⟨g _ _ d (b _ _ (by rw[a,f];simp)) (b _ _ (by rw[a,lt];simp[e])) (by rw[a];simp),a⟩
theorem nI.new(h:nI H ck sr n M ow P Q){j v:Nat}{r:gT}{k:Int}(z:j<n)(t:pW r (M j)=none)(C:ck<v)(q:H.l<=v)
  (h1:H'[P j]? = cp (.map KS (jN (Q j) 0 (M j) ++ [(mH r,oI v [k])]))) (E:H'[v]? = cp (tj [k]))
  (g:∀w o,H[w]? = cp o->w≠P j->ow w≠(0,0,0)->H'[w]? = cp o) :
  ∃b Q',nI H' ck sr n (yy M j (pV r k (M j))) b P Q'/\∀w,w≠v->b w=ow w:=by
 have B:=abr (k:=k) t;have f:=(h.mp j z).2;have d:∀v w,ow v≠ow w->v≠w:=λv w q e=>q (by rw[e]);have lv:∀w o,H[w]? = cp o->w≠v:=λw o p=>kM
 let b:Nat->Nat×Nat×Nat:=λw=>if w=v then(3,j,(M j).l)else ow w
 let Q':Nat->Nat->Nat:=λi u=>if i=j/\u=(M j).l then v else Q i u
 have hP:∀i,i<n->P i≠v:=λi hi=>lv _ _ (h.mp i hi).1;have A:∀i u x,i<n->(M i)[u]? = cp x->Q i u≠v:=λi u x hi s=>lv _ _ (h.ls i hi u x s).1;have hs:sr≠v:=lv _ _ h.row;refine⟨b,Q',⟨?_,?_,g _ _ h.row (d _ _ (by rw[h.fs,f];simp)) (by rw[h.fs];simp),λi hi=>?_,λi hi u y c=>?_⟩,λw p=>if_neg p⟩
 .show(if ck=v then _ else _)=_;rw[if_neg U];exact h.fc
 .show(if sr=v then _ else _)=_;rw[if_neg hs];exact h.fs
 .obtain⟨m,a⟩:=h.mp i hi;refine⟨?_,?_⟩
  .unfold yy
   by_cases e:i=j
   .subst e;rw[if_pos rfl,h1,B,aay,aR];have l:jN (Q' i) 0 (M i)=jN (Q i) 0 (M i):=aaw λu D=>kM;have e2:Q' i (M i).l=v:=kM;rw[l,e2]
   .rw[if_neg e];have l:Q' i=Q i:=funext λu=>kM;rw[l];exact g _ _ m (d _ _ (by rw[a,f];simp[e])) (by rw[a];simp)
  .grind
 .unfold yy at c
  by_cases e:i=j/\u=(M j).l
  .grind
  .have c:(M i)[u]? = cp y:=by grind
   obtain⟨m,a⟩:=h.ls i hi u y c;have e2:Q' i u=Q i u:=kM;rw[e2];refine⟨g _ _ m (d _ _ (by rw[a,f];simp)) (by rw[a];simp),?_⟩;show(if Q i u=v then _ else _)=_;rw[if_neg (A i u y hi c)];exact a
end
structure vK(cl:List iF)(i:Int)(w:gT->Bool)(seen:List Nat)(out:List Int):Prop where
 nd:seen.Nodup
 lt:∀t∈seen,t<(iH cl i).l
 R7:out.Nodup
 mem:∀k,k∈out↔∃t∈seen,∃x,(iH cl i)[t]? = cp x/\w x.1=aE/\k∈x.2
section
variable{cl:List iF}{i:Int}{w:gT->Bool}{seen:List Nat}{out:List Int}
theorem Qx{t:Nat}{x:gT×List Int}(h:(iH cl i)[t]? = cp x):x.2=lq (λc=>kN c i&&decide (lW c i=x.1)) cl cl.l/\x.2≠[]:=
 Ug (List.mem_of_getElem? h)
theorem JJ{t:Nat}{x:gT×List Int}{k:Int}(h:(iH cl i)[t]? = cp x):k∈x.2↔(0<=k/\k<cl.l)/\kN (gt cl k) i=aE/\lW (gt cl k) i=x.1:=by rw[(Qx h).1,Ck];simp
theorem ajG{t u:Nat}{x y:gT×List Int}(h:(iH cl i)[t]? = cp x)(d:(iH cl i)[u]? = cp y)(e:x.1=y.1):t=u:=by
 have c:((iH cl i).map (·.1)).Nodup:=JH _;have a:((iH cl i).map (·.1))[t]? = cp x.1:=by rw[aw,h];rfl
 have b:((iH cl i).map (·.1))[u]? = cp x.1:=by rw[aw,d,e];rfl
 obtain⟨p,a⟩:=ae.1 a;obtain⟨q,b⟩:=ae.1 b;exact(fZ c).1 (a.trans b.symm)
theorem vK.start:vK cl i w [] []:=⟨.nil,λ_ h=>(by cases h),.nil,λk=>gP⟩
theorem LV{n t:Nat}(nd:seen.Nodup)(lt:∀t∈seen,t<n)(d:t<n)(e:t ∉ seen):(seen ++ [t]).Nodup/\(∀u∈seen ++ [t],u<n)/\(seen ++ [t]).l<=n:=by have h1:(seen ++ [t]).Nodup:=kM;have a:∀u∈seen ++ [t],u<n:=λu c=>kM;have:=wL h1 (m:=eL n) λx b=>aZ.2 (a x b);rw[fQ]at this;exact⟨h1,a,this⟩
theorem vK.step(h:vK cl i w seen out){t:Nat}{x:gT×List Int}(j:(iH cl i)[t]? = cp x)(l:t ∉ seen):vK cl i w (seen ++ [t]) (if w x.1=aE then out++x.2 else out):=by
 have r:=(ae.1 j).1;obtain⟨h1,d,_⟩:=LV h.nd h.lt r l
 have m:∀k,k∈(if w x.1=aE then out++x.2 else out)↔∃u∈seen ++ [t],∃y,(iH cl i)[u]? = cp y/\w y.1=aE/\k∈y.2:=λk=>by
  constructor
  .intro g
   by_cases f:w x.1=aE
   .rw[if_pos f,ai,h.mem]at g;rcases g with⟨u,c,y,h1,d⟩|g
    .grind
    .grind
   .rw[if_neg f,h.mem]at g;obtain⟨u,c,y,h1,d⟩:=g;exact⟨u,bp _ c,y,h1,d⟩
  .rintro⟨u,c,y,h1,d,p⟩;rcases ai.1 c with c|c
   .have:k∈out:=(h.mem k).2 ⟨u,c,y,h1,d,p⟩;split
    .grind
    .exact this
   .grind
 refine⟨h1,d,?_,m⟩
 by_cases f:w x.1=aE
 .rw[if_pos f,a8];refine⟨h.R7,?_,λa o b n e=>?_⟩
  .rw[(Qx j).1];exact(G7 _ _ _).imp λh e=>U
  .subst e;obtain⟨u,c,y,q1,q2,q3⟩:=(h.mem a).1 o;have q:=((JJ j).1 n).2.2;have e2:=((JJ q1).1 q3).2.2;have:=ajG j q1 (q.symm.trans e2);rw[this]at l;exact l c
 .rw[if_neg f];exact h.R7
theorem vK.bnd(h:vK cl i w seen out):∀k∈out,0<=k/\k<cl.l:=λk a=>by obtain⟨t,_,x,h1,_,b⟩:=(h.mem k).1 a;exact((JJ h1).1 b).1
theorem vK.len(h:vK cl i w seen out):out.l<=cl.l:=yl _ _ h.R7 h.bnd
theorem vK.done(h:vK cl i w seen out)(n:∀t,t<(iH cl i).l->t∈seen):out.mergeSort (λx y=>decide (x<=y))=lq (λc=>kN c i&&w (lW c i)) cl cl.l:=by
 have g:=fu out (λx y=>decide (x<=y));have j:(out.mergeSort (λx y=>decide (x<=y))).Nodup:=g.nodup_iff.2 h.R7
 have hs:(out.mergeSort (λx y=>decide (x<=y))).Pairwise λx y=>decide (x<=y)=true:=
  eN (λa b c h1 d=>by simp only[decide_eq_true_eq]at h1 d ⊢;omega) (λa b=>by simp only[bM,decide_eq_true_eq];omega) out
 refine HW ((hs.and j).imp λ⟨h1,d⟩=>by simp only[decide_eq_true_eq]at h1;omega) (G7 _ _ _) λk=>?_;rw[g.mem_iff,h.mem,Ck];constructor
 .rintro⟨t,f,x,h1,d,o⟩;have:=(JJ h1).1 o;exact⟨this.1,by rw[this.2.1,this.2.2,d];rfl⟩
 .rintro⟨h1,d⟩;rw[di]at d;have m:lW (gt cl k) i∈(iH cl i).map (·.1):=z8.2 (uD.2 ⟨_,ij h1.1 h1.2,d.1,rfl⟩);obtain⟨x,l,e⟩:=aj.1 m;obtain⟨t,f⟩:=aG.1 l;exact⟨t,n t (ae.1 f).1,x,f,by rw[e];exact d.2,(JJ f).2 ⟨h1,d.1,e.symm⟩⟩
def yf(G:lr)(seen:List Nat):List gT:=seen.map λt=>((G[t]?).map (·.1)).getD (0,0)
theorem aln{G:lr}{t:Nat}{x:gT×List Int}(h:G[t]? = cp x):yf G (seen ++ [t])=yf G seen ++ [x.1]:=by unfold yf;rw[er,List.map_singleton,h];rfl
theorem alm(c:∀t,t<(iH cl i).l->t∈seen)(lt:∀t∈seen,t<(iH cl i).l)(r:gT):r∈yf (iH cl i) seen↔r∈sd cl i:=by
 rw[<-z8];unfold yf;rw[aj,aj];constructor
 .grind
 .rintro⟨x,b,e⟩;obtain⟨t,a⟩:=aG.1 b;exact⟨t,c t (ae.1 a).1,by rw[a];exact e⟩
end
theorem abv{p q:iF->Bool}{s:iF->gT}{cl:List iF}:∀ {n:Nat},(∀k:Int,0<=k->k<n->p (gt cl k)=q (gt cl k))->rE p s cl n=rE q s cl n
 | 0,_=>rfl
 | n+1,h=>by rw[rE,rE,h n U U,abv λk k0 k1=>h k k0 U]
def hM(ad:iF->Bool)(cl:List iF)(k:Nat)(j:Nat):lr:=rE (λc=>ad c&&kN c (j:Int)) (λc=>lW c (j:Int)) cl k
def hP(ad:iF->Bool)(cl:List iF)(k e:Nat)(j:Nat):lr:=
 if (gt cl (k:Int)).lo<=(j:Int)/\(j:Int)<(gt cl (k:Int)).lo+e then pV (lW (gt cl (k:Int)) (j:Int)) k (hM ad cl k j)else hM ad cl k j
section
variable{ad:iF->Bool}{cl:List iF}{k:Nat}
theorem ajS:hP ad cl k 0=hM ad cl k:=funext λj=>if_neg U
theorem abA{e:Nat}(h0:0<=(gt cl (k:Int)).lo):hP ad cl k e ((gt cl (k:Int)).lo.n+e)=hM ad cl k ((gt cl (k:Int)).lo.n+e):=if_neg U
theorem ajR{e:Nat}(h0:0<=(gt cl (k:Int)).lo):hP ad cl k (e+1)=yy (hP ad cl k e) ((gt cl (k:Int)).lo.n+e) (pV (gt (gt cl (k:Int)).es (e:Int)) k (hP ad cl k e ((gt cl (k:Int)).lo.n+e))):=funext λj=>by
 unfold yy
 by_cases a:j=(gt cl (k:Int)).lo.n+e
 .rw[if_pos a];subst a;rw[abA h0];unfold hP;rw[if_pos U];unfold lW;congr 2;omega
 .rw[if_neg a];unfold hP
  by_cases h:(gt cl (k:Int)).lo<=(j:Int)/\(j:Int)<(gt cl (k:Int)).lo+e
  .grind
  .grind
theorem ajQ(a:ad (gt cl (k:Int))=aE){e:Nat}(b:(gt cl (k:Int)).hi=(gt cl (k:Int)).lo+e):hP ad cl k e=hM ad cl (k+1):=funext λj=>by
 unfold hP;show _=hM ad cl (k+1) j
 conv=>rhs;unfold hM;rw[rE]
 have c:(ad (gt cl (k:Int))&&kN (gt cl (k:Int)) (j:Int))=decide ((gt cl (k:Int)).lo<=(j:Int)/\(j:Int)<(gt cl (k:Int)).lo+e):=by rw[a,eW];unfold kN;rw[b]
 rw[c]
 by_cases h:(gt cl (k:Int)).lo<=(j:Int)/\(j:Int)<(gt cl (k:Int)).lo+e
 .rw[if_pos h,if_pos (by simpa using h)];rfl
 .rw[if_neg h,if_neg (by simpa using h)];rfl
theorem ajP(a:ad (gt cl (k:Int))=ez):hM ad cl (k+1)=hM ad cl k:=funext λj=>by unfold hM;rw[rE,if_neg (by simp[a])]
theorem ajO(a:∀c∈cl,ad c=aE)(j:Nat):hM ad cl cl.l j=iH cl (j:Int):=by unfold hM iH;exact abv λk k0 k1=>by rw[a _ (ij k0 k1),eW]
