/- Part 27 of DisputeMatchesReference. -/
import Derived.Deep.Slices
import Derived.Test.YtmehofoficaelaaGreatDoorM25
import Derived.Test.YtmehofoficaelaaGreatDoorM26
set_option linter.all false
open List renaming getD_eq_getElem?_getD→aE,getElem?_eq_getElem→bb,replicate→b4,range→cj,take_add→di,length→List.l
open Option renaming some→bs,none→cp
namespace Go.AL
open Go
inductive CK where
 | int (k:IntKind)
 | sl (ks:List IntKind)
def NP:List CK->Option (List IntKind)
 | []=>bs []
 | .int k::r=>(NP r).map (k :: ·)
 | _=>cp
def NO(f:TypeId->Option (List CK))(P:Program):List Field->Nat->Option (List CK)
 | [],_=>bs []
 | x::r,o=>(f x.type).bind λks=>if x.offset=o/\ks.l=P.cellsOf x.type then(NO f P r (o+ks.l)).map (ks ++ ·)else cp
def y7(P:Program):Nat->TypeId->Option (List CK)
 | 0,_=>cp
 | d+1,t=>match P.underlying t with
  | some (.int k)=>bs [.int k]
  | some (.slice e)=>(y7 P d e).bind λks=>(NP ks).bind λl=>if l.l=P.cellsOf e then bs [.sl l]else cp
  | some (.array n e)=>(y7 P d e).bind λks=>if ks.l=P.cellsOf e/\P.cellsOf t=n*ks.l then bs (b4 n ks).flatten else cp
  | some (.struct fs)=>(NO (y7 P d) P fs.toList 0).bind λks=>if ks.l=P.cellsOf t then bs ks else cp
  | _=>cp
def F2{α c:Type}(R:α->c->Prop)(xs:List α)(d:List c):Prop:=xs.l=d.l/\∀(i:Nat) (a:α) (b:c),xs[i]? = bs a->d[i]? = bs b->R a b
def F2.nil{α c:Type}{R:α->c->Prop}:F2 R [] []:=⟨rfl,λi a b h=>by simp at h⟩
def F2.app{α e:Type}{R:α->e->Prop}{xs j:List α}{g k:List e}(h:F2 R xs g)(f:F2 R j k):F2 R (xs++j) (g++k):=by
 refine⟨by simp[h.1,f.1],λi a b d c=>?_⟩;rcases bJ i xs.l with hi|hi
 .rw[ah hi]at d;rw[ah (by rw[<-h.1];exact hi)]at c;exact h.2 i a b d c
 .rw[ak hi]at d;rw[ak (by rw[<-h.1];exact hi),<-h.1]at c;exact f.2 _ a b d c
def Ar(k:IntKind)(v:Value):Prop:=∃n,v = .int k n/\(Lit.int k n).wf=true
def xS(w:World):CK->Value->Prop
 | .int k,v=>Ar k v
 | .sl ks,v=>v = .slice cp 0 0\/∃(a:Addr) (len cap:Nat),v = .slice (bs a) len cap/\len<=cap/\cap<=maxLen/\∀i,i<len->∃ws,w.cells? 0 (a.add (i*ks.l)) ks.l=bs ws/\F2 Ar ks ws
theorem WD{w:World}:∀ {ks:List CK} {l:List IntKind} {ws:List Value},NP ks=bs l->F2 (xS w) ks ws->F2 Ar l ws
 | [],l,ws,h,h2=>by cases h;have:ws = []:=aC.1 h2.1.symm;subst this;exact .nil
 | .int k::r,l,ws,h,h2=>by
  simp only[NP,aq]at h;obtain⟨g,h1,rfl⟩:=h
  cases ws with
  | nil=>have:=h2.1;simp at this
  | cons v vs=>
   have f:F2 (xS w) r vs:=⟨by have:=h2.1;simpa using this,λi a b d c=>h2.2 (i+1) a b (by simpa using d) (by simpa using c)⟩;have e:Ar k v:=h2.2 0 _ _ rfl rfl;have:=WD h1 f
   exact⟨by simp[this.1],λi a b d c=>by
    cases i with
    | zero=>simp at d c;subst d;subst c;exact e
    | succ i=>exact this.2 i a b (by simpa using d) (by simpa using c)⟩
 | .sl _::_,_,_,h,_=>by cases h
theorem Ue{α c:Type}{f:α->Option c}:∀ {l:List α} {d:List c},l.mapM f=bs d->∀x∈l,∃y,f x=bs y
 | [],_,_,x,hx=>by cases hx
 | a::l,d,h,x,hx=>by
  rw[eV]at h
  cases b:f a with
  | none=>rw[b]at h;cases h
  | some y=>
   rw[b]at h
   cases hl:l.mapM f with
   | none=>rw[hl]at h;cases h
   | some zs=>
    rcases ay.1 hx with rfl|hx
    .exact⟨y,b⟩
    .exact Ue hl x hx
section
variable{H:Type}{enc:TypeId×Value->H}{P:Program}{w:World}{sp:Nat->Bool}{held:Bool}
theorem WC{f:TypeId->Option (List CK)}{g:TypeId->List Value->Prop}(a:∀t ks cs,f t=bs ks->g t cs->F2 (xS w) ks cs){cs:List Value}:∀ {fs:List Field} {o:Nat} {ks:List CK},NO f P fs o=bs ks ->
  (∀x∈fs,g x.type ((cs.drop x.offset).take (P.cellsOf x.type)))->o+ks.l<=cs.l->F2 (xS w) ks ((cs.drop o).take ks.l)
 | [],o,ks,h,_,_=>by cases h;simp;exact .nil
 | x::r,o,ks,h,hg,hl=>by
  simp only[NO,ag]at h;obtain⟨k1,h1,h⟩:=h;split at h
  .rename_i b;obtain⟨k2,i,rfl⟩:=aq.1 h;rw[ar]at hl;have c:=a _ _ _ h1 (hg x gf);rw[b.1,<-b.2]at c;have j:=WC a i (λy d=>hg y (by simp[d])) U
   have e:(cs.drop o).take (k1++k2).l=(cs.drop o).take k1.l++(cs.drop (o+k1.l)).take k2.l:=by rw[ar,di,cz]
   rw[e];exact c.app j
  .cases h
theorem adB{ks:List CK}{cs:List Value}(n:Nat)(h:∀i,i<n->F2 (xS w) ks ((cs.drop (i*ks.l)).take ks.l))(hl:n*ks.l<=cs.l):F2 (xS w) (b4 n ks).flatten (cs.take (n*ks.l)):=by
 induction n with
 | zero=>simp;exact .nil
 | succ n a=>
  have h1:=a (λi hi=>h i U) (by rw[cN]at hl;omega);have b:=h n U;rw[eO,eU,cN,di];simp only[a8,eH,aD];exact h1.app b
theorem Hz:∀(d:Nat) (t:TypeId) (ks:List CK),y7 P d t=bs ks->∀(fuel:Nat) (cs:List Value) (x:DataW H×List MemPlace),DataW.trod enc P w 0 sp held fuel t cs=bs x->F2 (xS w) ks cs
 | 0,_,_,h,_,_,_,_=>by cases h
 | d+1,t,ks,h,fuel,cs,x,c=>by
  unfold y7 at h
  cases fuel with
  | zero=>cases c
  | succ fuel=>
  have C:=λt ks h cs=>Hz d t ks h fuel cs;split at h
  .rename_i k o;cases h;unfold DataW.trod at c;simp only[o]at c
   match cs,c with
   | [.int k' n],c=>
    by_cases z:k'=k/\(Lit.int k n).wf=true
    .refine⟨rfl,λi a b p q=>?_⟩
     cases i with
     | zero=>
      simp at p q;subst p;subst q;exact⟨n,by rw[z.1],z.2⟩
     | succ i=>simp at p
    .simp[z]at c
  .rename_i e o;simp only[ag]at h;obtain⟨k1,h1,l,M,h⟩:=h;split at h
   .rename_i j;cases h
    have A:xS w (.sl l) (cs.headD undef)/\cs.l=1:=by
     rcases Go.Deep.open_slice o c with⟨rfl,_⟩|⟨a,len,cap,m,n,D,N,rfl,_,u,K,L,_,I⟩
     .exact⟨.inl rfl,rfl⟩
     .refine⟨.inr ⟨a,len,cap,rfl,u,K,λi hi=>?_⟩,rfl⟩;obtain⟨ws,G,J⟩:=I i (by rw[L];split<;>omega);rw[j];exact⟨ws,G,WD M (Hz d e k1 h1 n ws _ J)⟩
    match cs,A with
    | [v],A=>
     refine⟨rfl,λi a b p q=>?_⟩
     cases i with
     | zero=>simp at p q;subst p;subst q;exact A.1
     | succ i=>simp at p
   .cases h
  .rename_i n e o;simp only[ag]at h;obtain⟨k1,h1,h⟩:=h;split at h
   .rename_i j;cases h;unfold DataW.trod at c;simp only[o]at c;split at c
    .rename_i B;obtain⟨F,r,_⟩:=aq.1 c;have s:=Ue r
     have:=adB (w:=w) (ks:=k1) (cs:=cs) n (λi hi=>by
      obtain⟨y,E⟩:=s i (by simpa using hi);rw[<-j.1]at E
      exact C e k1 h1 _ y E) (by rw[B,j.2];exact Nat.le_refl _)
     rwa [af (by rw[B,j.2];exact Nat.le_refl _)]at this
    .cases c
   .cases h
  .rename_i fs o;simp only[ag]at h;obtain⟨k1,h1,h⟩:=h;split at h
   .rename_i j;cases h;unfold DataW.trod at c;simp only[o]at c;split at c
    .rename_i B;obtain⟨F,r,_⟩:=aq.1 c;have s:=Ue r;have:=WC (P:=P) (w:=w) (f:=y7 P d) (g:=λt cs=>∃x,DataW.trod enc P w 0 sp held fuel t cs=bs x) (λt ks cs h ⟨x,c⟩=>C t ks h cs x c) (cs:=cs) h1 (λx c=>s x c) U;rwa [eY,af U]at this
    .cases c
   .cases h
  .cases h
end
def wS:CK->D->Prop
 | .int k,d=>∃n,d = .val (.int k n)/\(Lit.int k n).wf=true
 | .sl ks,d=>∃(len:Nat) (W:Nat->List Value),d = .sl ks.l ((cj len).map λi=>(W i).map D.val)/\∀i,i<len->F2 Ar ks (W i)
def NL{w:World}{a:Addr}{v:Value}(h:w.cell? a=bs v):a.block<w.heap.size:=by
 unfold World.cell? at h
 cases b:w.heap[a.block]? with
 | none=>rw[b]at h;cases h
 | some o=>exact(aU.1 b).1
def Q7{w:World}{a:Addr}{v:Value}(h:w.cell? a=bs v):a.spot=none:=by
 unfold World.cell? at h;split at h
 .split at h
  .cases h
  .rename_i hs;simpa using hs
 .cases h
theorem Uf{α e:Type}{f:α->Option e}:∀ {l:List α} {b:List e},l.mapM f=bs b->b.l=l.l/\∀(i:Nat) (x:α),l[i]? = bs x->f x=b[i]?
 | [],b,h=>by cases h;exact⟨rfl,λi x h=>by simp at h⟩
 | a::l,b,h=>by
  rw[eV]at h
  cases d:f a with
  | none=>rw[d]at h;cases h
  | some y=>
   rw[d]at h
   cases hl:l.mapM f with
   | none=>rw[hl]at h;cases h
   | some zs=>
    rw[hl]at h;cases h;obtain⟨h1,g⟩:=Uf hl;refine⟨by simp[h1],λi x c=>?_⟩
    cases i with
    | zero=>simp at c;subst c;simp[d]
    | succ i=>simpa using g i x (by simpa using c)
def Q9{w:World}{a:Addr}{n:Nat}{ws:List Value}(h:w.cells? 0 a n=bs ws):ws.l=n/\∀j,j<n->w.cell? (a.add j)=ws[j]? := by unfold World.cells? at h;rw[if_pos (ew _)]at h;obtain⟨h1,c⟩:=Uf h;exact⟨by simpa using h1,λj b=>c j j (by simp[b])⟩
def V2{a:Addr}(hs:a.spot=cp)(n:Nat):a.add n=⟨a.block,a.off+n,cp⟩:=by
 unfold Addr.add;split
 .rename_i h;subst h;cases a;simp_all
 .simp
def aih{k:IntKind}{v:Value}(h:Ar k v):v.oneCell'=true:=by obtain⟨n,rfl,_⟩:=h;rfl
def aoN{c:Ctx}{w:World}(z:∀b,b<w.heap.size->c.F b){ck:CK}{v:Value}(h:xS w ck v):∃d,wS ck d/\gq c w v d/\v.oneCell'=true:=by
 cases ck with
 | int k=>
  obtain⟨n,rfl,h⟩:=h;exact⟨_,⟨n,rfl,h⟩,.val _,rfl⟩
 | sl ks=>
  rcases h with rfl|⟨a,len,cap,rfl,hle,kI,tb⟩
  .refine⟨_,⟨0,λ_=>[],rfl,λi hi=>U⟩,?_,rfl⟩;exact .sl cp 0 0 _ _ (λ_ _=>undef) rfl (Nat.le_refl _) jr (λe f=>by simp at f) (λ_=>rfl) (λi e j d f=>by simp at f) (λi e j d f=>by simp at f)
  .have t:∃W:Nat->List Value,∀i,i<len->w.cells? 0 (a.add (i*ks.l)) ks.l=bs (W i)/\F2 Ar ks (W i):=
    ⟨λi=>if h:i<len then Classical.choose (tb i h)else [],λi hi=>by simp only[hi,dite_true];exact cI (tb i hi)⟩
   obtain⟨W,o⟩:=t;refine⟨_,⟨len,W,rfl,λi hi=>(o i hi).2⟩,?_,rfl⟩
   have key:∀(i:Nat) (e:List D) (j:Nat) (d:D),((cj len).map λi=>(W i).map D.val)[i]? = bs e->e[j]? = bs d->i<len/\∃v,(W i)[j]? = bs v/\d = .val v/\v.oneCell'=true/\w.cell? ((a.add (i*ks.l)).add j)=bs v:=by
    intro i e j d f l;have hi:i<len:=by have:=(ae.1 f).1;simpa using this
    rw[ax,bW hi,aK,av]at f;subst f;rw[ax,aq]at l;obtain⟨v,g,rfl⟩:=l;obtain⟨h1,A⟩:=o i hi;obtain⟨u,q⟩:=Q9 h1;have r:j<ks.l:=by have:=(ae.1 g).1;omega
    exact⟨hi,v,g,rfl,aih (A.2 j _ v (bb r) g),by rw[q j r,g]⟩
   refine .sl (bs a) len cap ks.l _ (λi j=>(W i).getD j undef) gf hle kI (λe f=>?_) (λh=>by cases h) (λi e j d f l=>?_) (λi e j d f l=>?_)
   .obtain⟨i,hi,rfl⟩:=au.1 f;rw[List.length_map];exact(o i (by simpa using hi)).2.1.symm
   .obtain⟨hi,v,g,rfl,h1,m⟩:=key i e j d f l
    have x:a.spot=none:=by
     by_cases s:i*ks.l=0
     .by_cases r:j=0
      .rw[s,r]at m;exact Q7 (a:=a) m
      .have h0:=(o i hi).1;obtain⟨u,q⟩:=Q9 h0;have B:j<ks.l:=by have:=(ae.1 g).1;omega
       have p:=q 0 U;rw[bb (U:0<(W i).l),s]at p;exact Q7 (a:=a) p
     .have h0:=(o 0 U).1;obtain⟨u,q⟩:=Q9 h0;have y:0<ks.l:=Nat.pos_of_ne_zero λe=>s (by rw[e];simp);have p:=q 0 y;rw[bb (U:0<(W 0).l),c9]at p;exact Q7 (a:=a) p
    rw[V2 x,V2 rfl]at m;refine⟨a.block,a.off,by cases a;simp_all,z _ (by have:=NL m;exact this),?_,?_⟩
    .rw[aE,g,a7,<-m,bg]
    .rw[aE,g];exact h1
   .obtain⟨hi,v,g,rfl,h1,m⟩:=key i e j d f l;rw[aE,g];exact .val _
theorem Qc{c:Ctx}{w:World}(n:∀b,b<w.heap.size->c.F b):∀ {ks:List CK} {vs:List Value},F2 (xS w) ks vs->∃ds,F2 wS ks ds/\Cells c w vs ds
 | [],vs,h=>by have:vs = []:=aC.1 h.1.symm;subst this;exact⟨[],.nil,rfl,λv l=>by simp at l,λi v d l=>by simp at l⟩
 | k::ks,[],h=>by have:=h.1;simp at this
 | k::ks,v::vs,h=>by
  obtain⟨ds,h1,m⟩:=Qc n (ks:=ks) (vs:=vs) ⟨by have:=h.1;simpa using this,λi a b g f=>h.2 (i+1) a b (by simpa using g) (by simpa using f)⟩;obtain⟨d,q,p,o⟩:=aoN (c:=c) n (h.2 0 k v rfl rfl);refine⟨d::ds,⟨by simp[h1.1],λi a b g f=>?_⟩,by simp[m.len],λx e=>?_,λi x y e j=>?_⟩
  .cases i with
   | zero=>simp at g f;subst g;subst f;exact q
   | succ i=>exact h1.2 i a b (by simpa using g) (by simpa using f)
  .rcases ay.1 e with rfl|e
   .exact o
   .exact m.one x e
  .cases i with
   | zero=>simp at e j;subst e;subst j;exact p
   | succ i=>exact m.rep i x y (by simpa using e) (by simpa using j)
theorem F2.cons{α e:Type}{R:α->e->Prop}{a:α}{xs:List α}{d:List e}(h:F2 R (a::xs) d):∃b c,d=b::c/\R a b/\F2 R xs c:=by
 cases d with
 | nil=>have:=h.1;simp at this
 | cons b c=>exact⟨b,c,rfl,h.2 0 a b rfl rfl,by have:=h.1;simpa using this,λi x y g f=>h.2 (i+1) x y (by simpa using g) (by simpa using f)⟩
def F2.done{α a:Type}{R:α->a->Prop}{b:List a}(h:F2 R [] b):b = []:=aC.1 h.1.symm
end Go.AL
namespace Go.Proofs.YtmehofoficaelaaGreatDoor
open Go Go.AL
set_option maxRecDepth 10000
def J'{d:D}(h:wS (.int .u8) d):∃n,d = .val (.int .u8 n)/\ng n:=by obtain⟨n,rfl,h⟩:=h;simp only[Lit.wf,ai,decide_eq_true_eq]at h;have h1:IntKind.u8.min=0:=jr;have a:IntKind.u8.max=255:=jr;refine⟨n,rfl,?_,?_⟩<;>omega
def xF{v:Value}(h:Ar .u8 v):∃n,v = .int .u8 n/\ng n:=by obtain⟨n,rfl,h⟩:=h;obtain⟨m,h1,a⟩:=J' ⟨n,rfl,h⟩;simp only[D.val.injEq,Value.int.injEq]at h1;obtain⟨_,rfl⟩:=h1;exact⟨n,rfl,a⟩
def Q3{d:D}(h:wS (.sl [.u8]) d):∃l:List Int,d=dU l/\∀n∈l,ng n:=by
 obtain⟨len,W,rfl,h⟩:=h
 have:∀i,i<len->∃n,W i = [.int .u8 n]/\ng n:=λi hi=>by obtain⟨b,m,h1,k,j⟩:=(h i hi).cons;obtain⟨n,rfl,g⟩:=xF k;exact⟨n,by rw[h1,j.done],g⟩
 have a:∃f:Nat->Int,∀i,i<len->W i = [.int .u8 (f i)]/\ng (f i):=
  ⟨λi=>if h:i<len then Classical.choose (this i h)else 0,λi hi=>by simp only[hi,dite_true];exact cI (this i hi)⟩
 obtain⟨f,c⟩:=a;refine⟨(cj len).map f,?_,λn e=>?_⟩
 .unfold dU;rw[b6];congr 1;refine aw λi hi=>?_;rw[(c i (by simpa using hi)).1];simp
 .obtain⟨i,hi,rfl⟩:=au.1 e;exact(c i (by simpa using hi)).2
def ap8{d:D}(h:wS (.sl [.u8,.u8,.u8]) d):∃l:List (Int×Int×Int),d = .sl 3 (l.map fT)/\∀x∈l,ng x.1/\ng x.2.1/\ng x.2.2:=by
 obtain⟨len,W,rfl,h⟩:=h
 have:∀i,i<len->∃x:Int×Int×Int,W i = [.int .u8 x.1,.int .u8 x.2.1,.int .u8 x.2.2]/\ng x.1/\ng x.2.1/\ng x.2.2:=λi hi=>by obtain⟨b,y,h1,s,r⟩:=(h i hi).cons;obtain⟨z,A,rfl,v,e⟩:=r.cons;obtain⟨t,u,rfl,k,j⟩:=e.cons;obtain⟨n,rfl,q⟩:=xF s;obtain⟨o,rfl,w⟩:=xF v;obtain⟨a,rfl,g⟩:=xF k;exact⟨(n,o,a),by rw[h1,j.done],q,w,g⟩
 have c:∃f:Nat->Int×Int×Int,∀i,i<len->W i = [.int .u8 (f i).1,.int .u8 (f i).2.1,.int .u8 (f i).2.2]/\ng (f i).1/\ng (f i).2.1/\ng (f i).2.2:=
  ⟨λi=>if h:i<len then Classical.choose (this i h)else(0,0,0),λi hi=>by simp only[hi,dite_true];exact cI (this i hi)⟩
 obtain⟨f,m⟩:=c;refine⟨(cj len).map f,?_,λn p=>?_⟩
 .rw[b6];congr 1;refine aw λi hi=>?_;rw[(m i (by simpa using hi)).1];simp
 .obtain⟨i,hi,rfl⟩:=au.1 p;exact(m i (by simpa using hi)).2
theorem Vh:∀ {n:Nat} {ks:List CK} {ds:List D},F2 wS (b4 n (.int .u8)++ks) ds->∃(l:List Int) (r:List D),l.l=n/\(∀m∈l,ng m)/\ds=l.map (λn=>.val (.int .u8 n))++r/\F2 wS ks r
 | 0,ks,ds,h=>⟨[],ds,rfl,gf,rfl,by simpa using h⟩
 | n+1,ks,ds,h=>by rw[bw,cy]at h;obtain⟨d,r,rfl,h1,g⟩:=h.cons;obtain⟨m,rfl,b⟩:=J' h1;obtain⟨l,a,f,e,rfl,c⟩:=Vh g;exact⟨m::l,a,by simp[f],by simpa using ⟨b,e⟩,rfl,c⟩
def aed(l:List Int):cl fU l=l.map λn=>.val (.int .u8 n):=by
 unfold cl
 induction l with
 | nil=>rfl
 | cons a l b=>simp[b]
def adM{ds:List D}(h:F2 wS ([.int .u8,.int .u8,.int .u8,.sl [.u8],.sl [.u8],.sl [.u8,.u8,.u8]]++b4 24 (.int .u8) ++ [.sl [.u8]]) ds):∃x:sy,x.cells=ds/\Kh x:=by
 rw[aN]at h;simp only[cy,bI]at h;obtain⟨d0,O,rfl,h0,B⟩:=h.cons;obtain⟨d1,N,rfl,h1,A⟩:=B.cons;obtain⟨d2,M,rfl,q,z⟩:=A.cons;obtain⟨d3,L,rfl,o,y⟩:=z.cons;obtain⟨d4,K,rfl,m,v⟩:=y.cons;obtain⟨d5,J,rfl,k,u⟩:=v.cons;obtain⟨w,rfl,w'⟩:=J' h0;obtain⟨i,rfl,e⟩:=J' h1;obtain⟨c,rfl,c'⟩:=J' q;obtain⟨k0,rfl,d⟩:=Q3 o;obtain⟨k1,rfl,b⟩:=Q3 m;obtain⟨cs,rfl,g⟩:=ap8 k;obtain⟨l,r,hl,a,rfl,t⟩:=Vh (n:=24) (ks:=[.sl [.u8]]) u;obtain⟨d6,I,rfl,j,s⟩:=t.cons;obtain⟨p,rfl,f⟩:=Q3 j;obtain rfl:=s.done
 match l,hl,a with
 | f0::f1::f2::f3::f4::f5::l,hl,a=>
  simp only[aL,Nat.reduceEqDiff]at hl;simp only[ay,forall_eq_or_imp]at a;obtain⟨H,G,b2,F,E,C,a⟩:=a;refine⟨⟨⟨w,i,c,k0,k1,cs,f0,f1,f2,f3,f4,f5⟩,l,p⟩,?_,⟨⟨w',e,c',d,b,g,H,G,b2,F,E,C⟩,by simpa using hl,a,f⟩⟩;simp[sy.cells,Raw.cells,aed]
