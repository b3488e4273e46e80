/- 27 -/
import Derived.Deep.Slices
import Derived.Test.YtmehofoficaelaaGreatDoorP25
import Derived.Test.YtmehofoficaelaaGreatDoorP26
set_option linter.all false
open Go renaming Value→aE,IntKind→dx,World→ej,TypeId→ek,Program→er
open List renaming getD_eq_getElem?_getD→bf,getElem?_eq_getElem→cc,replicate→eh,range→ep,take_add→eB,length→List.l
open Option renaming some→cp,none→ez
open Go.DataW renaming trod→di
namespace Go.AL
open Go
inductive CK where
 | int (k:dx)
 | sl (ks:List dx)
def PN:List CK->Option (List dx)
 | []=>cp []
 | .int k::r=>(PN r).map (k :: ·)
 | _=>ez
def PM(f:ek->Option (List CK))(P:er):List Field->Nat->Option (List CK)
 | [],_=>cp []
 | x::r,o=>(f x.type).bind λks=>if x.offset=o/\ks.l=P.cellsOf x.type then(PM f P r (o+ks.l)).map (ks ++ ·)else ez
def zU(P:er):Nat->ek->Option (List CK)
 | 0,_=>ez
 | d+1,t=>match P.underlying t with
  | some (.int k)=>cp [.int k]
  | some (.slice e)=>(zU P d e).bind λks=>(PN ks).bind λl=>if l.l=P.cellsOf e then cp [.sl l]else ez
  | some (.array n e)=>(zU P d e).bind λks=>if ks.l=P.cellsOf e/\P.cellsOf t=n*ks.l then cp (eh n ks).flatten else ez
  | some (.struct fs)=>(PM (zU P d) P fs.toList 0).bind λks=>if ks.l=P.cellsOf t then cp ks else ez
  | _=>ez
def F2{α c:Type}(R:α->c->Prop)(xs:List α)(d:List c):Prop:=xs.l=d.l/\∀(i:Nat) (a:α) (b:c),xs[i]? = cp a->d[i]? = cp b->R a b
def F2.nil{α c:Type}{R:α->c->Prop}:F2 R [] []:=⟨rfl,λi a b h=>by simp at h⟩
def F2.app{α e:Type}{R:α->e->Prop}{xs j:List α}{g k:List e}(h:F2 R xs g)(f:F2 R j k):F2 R (xs++j) (g++k):=by
 refine⟨by simp[h.1,f.1],λi a b d c=>?_⟩;rcases bU i xs.l with hi|hi
 .rw[ah hi]at d;rw[ah (by rw[<-h.1];exact hi)]at c;exact h.2 i a b d c
 .rw[ao hi]at d;rw[ao (by rw[<-h.1];exact hi),<-h.1]at c;exact f.2 _ a b d c
def Be(k:dx)(v:aE):Prop:=∃n,v = .int k n/\(Lit.int k n).wf=true
def yC(w:ej):CK->aE->Prop
 | .int k,v=>Be k v
 | .sl ks,v=>v = .slice ez 0 0\/∃(a:Addr) (len cap:Nat),v = .slice (cp a) len cap/\len<=cap/\cap<=maxLen/\∀i,i<len->∃ws,w.cells? 0 (a.add (i*ks.l)) ks.l=cp ws/\F2 Be ks ws
theorem ZA{w:ej}:∀ {ks:List CK} {l:List dx} {ws:List aE},PN ks=cp l->F2 (yC w) ks ws->F2 Be l ws
 | [],l,ws,h,h2=>by cases h;have:ws = []:=aA.1 h2.1.symm;subst this;exact .nil
 | .int k::r,l,ws,h,h2=>by
  simp only[PN,ar]at h;obtain⟨g,h1,rfl⟩:=h
  cases ws with
  | nil=>have:=h2.1;simp at this
  | cons v vs=>
   have f:F2 (yC w) r vs:=⟨by have:=h2.1;simpa using this,λi a b d c=>h2.2 (i+1) a b (by simpa using d) (by simpa using c)⟩;have e:Be k v:=h2.2 0 _ _ rfl rfl;have:=ZA h1 f
   exact⟨by simp[this.1],λi a b d c=>by
    cases i with
    | zero=>simp at d c;subst d;subst c;exact e
    | succ i=>exact this.2 i a b (by simpa using d) (by simpa using c)⟩
 | .sl _::_,_,_,h,_=>by cases h
theorem Wu{α c:Type}{f:α->Option c}:∀ {l:List α} {d:List c},l.mapM f=cp d->∀x∈l,∃y,f x=cp y
 | [],_,_,x,hx=>by cases hx
 | a::l,d,h,x,hx=>by
  rw[fw]at h
  cases b:f a with
  | none=>rw[b]at h;cases h
  | some y=>
   rw[b]at h
   cases hl:l.mapM f with
   | none=>rw[hl]at h;cases h
   | some zs=>
    rcases ak.1 hx with rfl|hx
    .exact⟨y,b⟩
    .exact Wu hl x hx
section
variable{H:Type}{enc:ek×aE->H}{P:er}{w:ej}{sp:Nat->Bool}{held:Bool}
theorem Zz{f:ek->Option (List CK)}{g:ek->List aE->Prop}(a:∀t ks cs,f t=cp ks->g t cs->F2 (yC w) ks cs){cs:List aE}:∀ {fs:List Field} {o:Nat} {ks:List CK},PM f P fs o=cp ks ->
  (∀x∈fs,g x.type ((cs.drop x.offset).take (P.cellsOf x.type)))->o+ks.l<=cs.l->F2 (yC w) ks ((cs.drop o).take ks.l)
 | [],o,ks,h,_,_=>by cases h;simp;exact .nil
 | x::r,o,ks,h,hg,hl=>by
  simp only[PM,ag]at h;obtain⟨k1,h1,h⟩:=h;split at h
  .rename_i b;obtain⟨k2,i,rfl⟩:=ar.1 h;rw[aq]at hl;have c:=a _ _ _ h1 (hg x gP);rw[b.1,<-b.2]at c;have j:=Zz a i (λy d=>hg y (by simp[d])) U
   have e:(cs.drop o).take (k1++k2).l=(cs.drop o).take k1.l++(cs.drop (o+k1.l)).take k2.l:=by rw[aq,eB,cJ]
   rw[e];exact c.app j
  .cases h
theorem afY{ks:List CK}{cs:List aE}(n:Nat)(h:∀i,i<n->F2 (yC w) ks ((cs.drop (i*ks.l)).take ks.l))(hl:n*ks.l<=cs.l):F2 (yC w) (eh n ks).flatten (cs.take (n*ks.l)):=by
 induction n with
 | zero=>simp;exact .nil
 | succ n a=>
  have h1:=a (λi hi=>h i U) (by rw[cU]at hl;omega);have b:=h n U;rw[fj,eo,cU,eB];simp only[bg,ea,az];exact h1.app b
theorem Jf:∀(d:Nat) (t:ek) (ks:List CK),zU P d t=cp ks->∀(fuel:Nat) (cs:List aE) (x:DataW H×List MemPlace),di enc P w 0 sp held fuel t cs=cp x->F2 (yC w) ks cs
 | 0,_,_,h,_,_,_,_=>by cases h
 | d+1,t,ks,h,fuel,cs,x,c=>by
  unfold zU at h
  cases fuel with
  | zero=>cases c
  | succ fuel=>
  have C:=λt ks h cs=>Jf d t ks h fuel cs;split at h
  .rename_i k o;cases h;unfold di at c;simp only[o]at c
   match cs,c with
   | [.int k' n],c=>
    by_cases A:k'=k/\(Lit.int k n).wf=true
    .refine⟨rfl,λi a b p q=>?_⟩
     cases i with
     | zero=>
      simp at p q;subst p;subst q;exact⟨n,by rw[A.1],A.2⟩
     | succ i=>simp at p
    .simp[A]at c
  .rename_i e o;simp only[ag]at h;obtain⟨k1,h1,l,M,h⟩:=h;split at h
   .rename_i j;cases h
    have B:yC w (.sl l) (cs.headD undef)/\cs.l=1:=by
     rcases Go.Deep.open_slice o c with⟨rfl,_⟩|⟨a,len,cap,m,n,D,N,rfl,_,z,K,L,_,I⟩
     .exact⟨.inl rfl,rfl⟩
     .refine⟨.inr ⟨a,len,cap,rfl,z,K,λi hi=>?_⟩,rfl⟩;obtain⟨ws,G,J⟩:=I i (by rw[L];split<;>omega);rw[j];exact⟨ws,G,ZA M (Jf d e k1 h1 n ws _ J)⟩
    match cs,B with
    | [v],B=>
     refine⟨rfl,λi a b p q=>?_⟩
     cases i with
     | zero=>simp at p q;subst p;subst q;exact B.1
     | succ i=>simp at p
   .cases h
  .rename_i n e o;simp only[ag]at h;obtain⟨k1,h1,h⟩:=h;split at h
   .rename_i j;cases h;unfold di at c;simp only[o]at c;split at c
    .rename_i u;obtain⟨F,r,_⟩:=ar.1 c;have s:=Wu r
     have:=afY (w:=w) (ks:=k1) (cs:=cs) n (λi hi=>by
      obtain⟨y,E⟩:=s i (by simpa using hi);rw[<-j.1]at E
      exact C e k1 h1 _ y E) (by rw[u,j.2];exact Nat.le_refl _)
     rwa [af (by rw[u,j.2];exact Nat.le_refl _)]at this
    .cases c
   .cases h
  .rename_i fs o;simp only[ag]at h;obtain⟨k1,h1,h⟩:=h;split at h
   .rename_i j;cases h;unfold di at c;simp only[o]at c;split at c
    .rename_i u;obtain⟨F,r,_⟩:=ar.1 c;have s:=Wu r;have:=Zz (P:=P) (w:=w) (f:=zU P d) (g:=λt cs=>∃x,di enc P w 0 sp held fuel t cs=cp x) (λt ks cs h ⟨x,c⟩=>C t ks h cs x c) (cs:=cs) h1 (λx c=>s x c) U;rwa [eJ,af U]at this
    .cases c
   .cases h
  .cases h
end
def yD:CK->D->Prop
 | .int k,d=>∃n,d = .val (.int k n)/\(Lit.int k n).wf=true
 | .sl ks,d=>∃(len:Nat) (W:Nat->List aE),d = .sl ks.l ((ep len).map λi=>(W i).map D.val)/\∀i,i<len->F2 Be ks (W i)
def PI{w:ej}{a:Addr}{v:aE}(h:w.cell? a=cp v):a.block<w.heap.size:=by
 unfold World.cell? at h
 cases b:w.heap[a.block]? with
 | none=>rw[b]at h;cases h
 | some o=>exact(aX.1 b).1
def Tm{w:ej}{a:Addr}{v:aE}(h:w.cell? a=cp v):a.spot=none:=by
 unfold World.cell? at h;split at h
 .split at h
  .cases h
  .rename_i hs;simpa using hs
 .cases h
theorem Wv{α e:Type}{f:α->Option e}:∀ {l:List α} {b:List e},l.mapM f=cp b->b.l=l.l/\∀(i:Nat) (x:α),l[i]? = cp x->f x=b[i]?
 | [],b,h=>by cases h;exact⟨rfl,λi x h=>by simp at h⟩
 | a::l,b,h=>by
  rw[fw]at h
  cases d:f a with
  | none=>rw[d]at h;cases h
  | some y=>
   rw[d]at h
   cases hl:l.mapM f with
   | none=>rw[hl]at h;cases h
   | some zs=>
    rw[hl]at h;cases h;obtain⟨h1,g⟩:=Wv hl;refine⟨by simp[h1],λi x c=>?_⟩
    cases i with
    | zero=>simp at c;subst c;simp[d]
    | succ i=>simpa using g i x (by simpa using c)
def To{w:ej}{a:Addr}{n:Nat}{ws:List aE}(h:w.cells? 0 a n=cp ws):ws.l=n/\∀j,j<n->w.cell? (a.add j)=ws[j]? := by unfold World.cells? at h;rw[if_pos (Nat.zero_le _)]at h;obtain⟨h1,c⟩:=Wv h;exact⟨by simpa using h1,λj b=>c j j (by simp[b])⟩
def Y3{a:Addr}(hs:a.spot=ez)(n:Nat):a.add n=⟨a.block,a.off+n,ez⟩:=by
 unfold Addr.add;split
 .rename_i h;subst h;cases a;simp_all
 .simp
def ak3{k:dx}{v:aE}(h:Be k v):v.oneCell'=true:=by obtain⟨n,rfl,_⟩:=h;rfl
def asq{c:Ctx}{w:ej}(z:∀b,b<w.heap.size->c.F b){ck:CK}{v:aE}(h:yC w ck v):∃d,yD ck d/\gX c w v d/\v.oneCell'=true:=by
 cases ck with
 | int k=>
  obtain⟨n,rfl,h⟩:=h;exact⟨_,⟨n,rfl,h⟩,.val _,rfl⟩
 | sl ks=>
  rcases h with rfl|⟨a,len,cap,rfl,hle,lk,tL⟩
  .refine⟨_,⟨0,λ_=>[],rfl,λi hi=>U⟩,?_,rfl⟩;exact .sl ez 0 0 _ _ (λ_ _=>undef) rfl (Nat.le_refl _) jo (λe f=>by simp at f) (λ_=>rfl) (λi e j d f=>by simp at f) (λi e j d f=>by simp at f)
  .have t:∃W:Nat->List aE,∀i,i<len->w.cells? 0 (a.add (i*ks.l)) ks.l=cp (W i)/\F2 Be ks (W i):=
    ⟨λi=>if h:i<len then Classical.choose (tL i h)else [],λi hi=>by simp only[hi,dite_true];exact da (tL i hi)⟩
   obtain⟨W,o⟩:=t;refine⟨_,⟨len,W,rfl,λi hi=>(o i hi).2⟩,?_,rfl⟩
   have key:∀(i:Nat) (e:List D) (j:Nat) (d:D),((ep len).map λi=>(W i).map D.val)[i]? = cp e->e[j]? = cp d->i<len/\∃v,(W i)[j]? = cp v/\d = .val v/\v.oneCell'=true/\w.cell? ((a.add (i*ks.l)).add j)=cp v:=by
    intro i e j d f l;have hi:i<len:=by have:=(ae.1 f).1;simpa using this
    rw[aw,cF hi,aK,ax]at f;subst f;rw[aw,ar]at l;obtain⟨v,g,rfl⟩:=l;obtain⟨h1,A⟩:=o i hi;obtain⟨u,q⟩:=To h1;have r:j<ks.l:=by have:=(ae.1 g).1;omega
    exact⟨hi,v,g,rfl,ak3 (A.2 j _ v (cc r) g),by rw[q j r,g]⟩
   refine .sl (cp a) len cap ks.l _ (λi j=>(W i).getD j undef) gP hle lk (λe f=>?_) (λh=>by cases h) (λi e j d f l=>?_) (λi e j d f l=>?_)
   .obtain⟨i,hi,rfl⟩:=aj.1 f;rw[List.length_map];exact(o i (by simpa using hi)).2.1.symm
   .obtain⟨hi,v,g,rfl,h1,m⟩:=key i e j d f l
    have x:a.spot=none:=by
     by_cases s:i*ks.l=0
     .by_cases r:j=0
      .rw[s,r]at m;exact Tm (a:=a) m
      .have h0:=(o i hi).1;obtain⟨u,q⟩:=To h0;have B:j<ks.l:=by have:=(ae.1 g).1;omega
       have p:=q 0 U;rw[cc (U:0<(W i).l),s]at p;exact Tm (a:=a) p
     .have h0:=(o 0 U).1;obtain⟨u,q⟩:=To h0;have y:0<ks.l:=Nat.pos_of_ne_zero λe=>s (by rw[e];simp);have p:=q 0 y;rw[cc (U:0<(W 0).l),dm]at p;exact Tm (a:=a) p
    rw[Y3 x,Y3 rfl]at m;refine⟨a.block,a.off,by cases a;simp_all,z _ (by have:=PI m;exact this),?_,?_⟩
    .rw[bf,g,bh,<-m,bk]
    .rw[bf,g];exact h1
   .obtain⟨hi,v,g,rfl,h1,m⟩:=key i e j d f l;rw[bf,g];exact .val _
theorem Sg{c:Ctx}{w:ej}(n:∀b,b<w.heap.size->c.F b):∀ {ks:List CK} {vs:List aE},F2 (yC w) ks vs->∃ds,F2 yD ks ds/\Cells c w vs ds
 | [],vs,h=>by have:vs = []:=aA.1 h.1.symm;subst this;exact⟨[],.nil,rfl,λv l=>by simp at l,λi v d l=>by simp at l⟩
 | k::ks,[],h=>by have:=h.1;simp at this
 | k::ks,v::vs,h=>by
  obtain⟨ds,h1,m⟩:=Sg n (ks:=ks) (vs:=vs) ⟨by have:=h.1;simpa using this,λi a b g f=>h.2 (i+1) a b (by simpa using g) (by simpa using f)⟩;obtain⟨d,q,p,o⟩:=asq (c:=c) n (h.2 0 k v rfl rfl);refine⟨d::ds,⟨by simp[h1.1],λi a b g f=>?_⟩,by simp[m.len],λx e=>?_,λi x y e j=>?_⟩
  .cases i with
   | zero=>simp at g f;subst g;subst f;exact q
   | succ i=>exact h1.2 i a b (by simpa using g) (by simpa using f)
  .rcases ak.1 e with rfl|e
   .exact o
   .exact m.one x e
  .cases i with
   | zero=>simp at e j;subst e;subst j;exact p
   | succ i=>exact m.rep i x y (by simpa using e) (by simpa using j)
theorem F2.cons{α e:Type}{R:α->e->Prop}{a:α}{xs:List α}{d:List e}(h:F2 R (a::xs) d):∃b c,d=b::c/\R a b/\F2 R xs c:=by
 cases d with
 | nil=>have:=h.1;simp at this
 | cons b c=>exact⟨b,c,rfl,h.2 0 a b rfl rfl,by have:=h.1;simpa using this,λi x y g f=>h.2 (i+1) x y (by simpa using g) (by simpa using f)⟩
def F2.done{α a:Type}{R:α->a->Prop}{b:List a}(h:F2 R [] b):b = []:=aA.1 h.1.symm
end Go.AL
namespace Go.Proofs.YtmehofoficaelaaGreatDoor
open Go Go.AL
set_option maxRecDepth 10000
def Mj{d:D}(h:yD (.int .u8) d):∃n,d = .val (.int .u8 n)/\nO n:=by obtain⟨n,rfl,h⟩:=h;simp only[Lit.wf,Bool.and_eq_true,decide_eq_true_eq]at h;have h1:IntKind.u8.min=0:=jo;have a:IntKind.u8.max=255:=jo;refine⟨n,rfl,?_,?_⟩<;>omega
def Ay{v:aE}(h:Be .u8 v):∃n,v = .int .u8 n/\nO n:=by obtain⟨n,rfl,h⟩:=h;obtain⟨m,h1,a⟩:=Mj ⟨n,rfl,h⟩;simp only[D.val.injEq,Value.int.injEq]at h1;obtain⟨_,rfl⟩:=h1;exact⟨n,rfl,a⟩
def Th{d:D}(h:yD (.sl [.u8]) d):∃l:List Int,d=dU l/\∀n∈l,nO n:=by
 obtain⟨len,W,rfl,h⟩:=h
 have:∀i,i<len->∃n,W i = [.int .u8 n]/\nO n:=λi hi=>by obtain⟨b,m,h1,k,j⟩:=(h i hi).cons;obtain⟨n,rfl,g⟩:=Ay k;exact⟨n,by rw[h1,j.done],g⟩
 have a:∃f:Nat->Int,∀i,i<len->W i = [.int .u8 (f i)]/\nO (f i):=
  ⟨λi=>if h:i<len then Classical.choose (this i h)else 0,λi hi=>by simp only[hi,dite_true];exact da (this i hi)⟩
 obtain⟨f,c⟩:=a;refine⟨(ep len).map f,?_,λn e=>?_⟩
 .unfold dU;rw[bC];congr 1;refine au λi hi=>?_;rw[(c i (by simpa using hi)).1];simp
 .obtain⟨i,hi,rfl⟩:=aj.1 e;exact(c i (by simpa using hi)).2
def atX{d:D}(h:yD (.sl [.u8,.u8,.u8]) d):∃l:List (Int×Int×Int),d = .sl 3 (l.map fT)/\∀x∈l,nO x.1/\nO x.2.1/\nO x.2.2:=by
 obtain⟨len,W,rfl,h⟩:=h
 have:∀i,i<len->∃x:Int×Int×Int,W i = [.int .u8 x.1,.int .u8 x.2.1,.int .u8 x.2.2]/\nO x.1/\nO x.2.1/\nO x.2.2:=λi hi=>by obtain⟨b,y,h1,s,r⟩:=(h i hi).cons;obtain⟨z,A,rfl,v,e⟩:=r.cons;obtain⟨t,u,rfl,k,j⟩:=e.cons;obtain⟨n,rfl,q⟩:=Ay s;obtain⟨o,rfl,w⟩:=Ay v;obtain⟨a,rfl,g⟩:=Ay k;exact⟨(n,o,a),by rw[h1,j.done],q,w,g⟩
 have c:∃f:Nat->Int×Int×Int,∀i,i<len->W i = [.int .u8 (f i).1,.int .u8 (f i).2.1,.int .u8 (f i).2.2]/\nO (f i).1/\nO (f i).2.1/\nO (f i).2.2:=
  ⟨λi=>if h:i<len then Classical.choose (this i h)else(0,0,0),λi hi=>by simp only[hi,dite_true];exact da (this i hi)⟩
 obtain⟨f,m⟩:=c;refine⟨(ep len).map f,?_,λn p=>?_⟩
 .rw[bC];congr 1;refine au λi hi=>?_;rw[(m i (by simpa using hi)).1];simp
 .obtain⟨i,hi,rfl⟩:=aj.1 p;exact(m i (by simpa using hi)).2
theorem XA:∀ {n:Nat} {ks:List CK} {ds:List D},F2 yD (eh n (.int .u8)++ks) ds->∃(l:List Int) (r:List D),l.l=n/\(∀m∈l,nO m)/\ds=l.map (λn=>.val (.int .u8 n))++r/\F2 yD ks r
 | 0,ks,ds,h=>⟨[],ds,rfl,gP,rfl,by simpa using h⟩
 | n+1,ks,ds,h=>by rw[bL,bz]at h;obtain⟨d,r,rfl,h1,f⟩:=h.cons;obtain⟨m,rfl,a⟩:=Mj h1;obtain⟨l,r',e,c,rfl,b⟩:=XA f;exact⟨m::l,r',by simp[e],by simpa using ⟨a,c⟩,rfl,b⟩
def agF(l:List Int):cl fU l=l.map λn=>.val (.int .u8 n):=by
 unfold cl
 induction l with
 | nil=>rfl
 | cons a l b=>simp[b]
def af7{ds:List D}(h:F2 yD ([.int .u8,.int .u8,.int .u8,.sl [.u8],.sl [.u8],.sl [.u8,.u8,.u8]]++eh 24 (.int .u8) ++ [.sl [.u8]]) ds):∃x:sw,x.cells=ds/\Ik x:=by
 rw[aO]at h;simp only[bz,aS]at h;obtain⟨d0,O,rfl,h0,B⟩:=h.cons;obtain⟨d1,N,rfl,h1,A⟩:=B.cons;obtain⟨d2,M,rfl,q,z⟩:=A.cons;obtain⟨d3,L,rfl,o,y⟩:=z.cons;obtain⟨d4,K,rfl,m,v⟩:=y.cons;obtain⟨d5,J,rfl,k,u⟩:=v.cons;obtain⟨w,rfl,w'⟩:=Mj h0;obtain⟨i,rfl,e⟩:=Mj h1;obtain⟨c,rfl,c'⟩:=Mj q;obtain⟨k0,rfl,d⟩:=Th o;obtain⟨k1,rfl,b⟩:=Th m;obtain⟨cs,rfl,f⟩:=atX k;obtain⟨l,r,hl,a,rfl,t⟩:=XA (n:=24) (ks:=[.sl [.u8]]) u;obtain⟨d6,I,rfl,j,s⟩:=t.cons;obtain⟨p,rfl,g⟩:=Th j;obtain rfl:=s.done
 match l,hl,a with
 | f0::f1::f2::f3::f4::f5::l,hl,a=>
  simp only[aF,Nat.reduceEqDiff]at hl;simp only[ak,forall_eq_or_imp]at a;obtain⟨H,G,b2,F,E,C,a⟩:=a;refine⟨⟨⟨w,i,c,k0,k1,cs,f0,f1,f2,f3,f4,f5⟩,l,p⟩,?_,⟨⟨w',e,c',d,b,f,H,G,b2,F,E,C⟩,by simpa using hl,a,g⟩⟩;simp[sw.cells,Raw.cells,agF]
