/- Part 27 of DisputeWorkers. -/
import Derived.Deep.Slices
import Derived.Test.YtmehofoficaelaaGreatDoorW25
import Derived.Test.YtmehofoficaelaaGreatDoorW26
set_option linter.all false
namespace Go.AL
open Go
inductive CK where
 | int (k:IntKind)
 | sl (ks:List IntKind)
def MG:List CK->Option (List IntKind)
 | []=>some []
 | .int k::r=>(MG r).map (k :: ·)
 | _=>none
def MF(f:TypeId->Option (List CK))(P:Program):List Field->Nat->Option (List CK)
 | [],_=>some []
 | x::r,o=>(f x.type).bind λks=>if x.offset=o/\ks.length=P.cellsOf x.type then(MF f P r (o+ks.length)).map (ks ++ ·)else none
def zq(P:Program):Nat->TypeId->Option (List CK)
 | 0,_=>none
 | d+1,t=>match P.underlying t with
  | some (.int k)=>some [.int k]
  | some (.slice e)=>(zq P d e).bind λks=>(MG ks).bind λl=>if l.length=P.cellsOf e then some [.sl l]else none
  | some (.array n e)=>(zq P d e).bind λks=>if ks.length=P.cellsOf e/\P.cellsOf t=n*ks.length then some (List.replicate n ks).flatten else none
  | some (.struct fs)=>(MF (zq P d) P fs.toList 0).bind λks=>if ks.length=P.cellsOf t then some ks else none
  | _=>none
def F2{α c:Type}(R:α->c->Prop)(xs:List α)(d:List c):Prop:=xs.length=d.length/\∀(i:Nat) (a:α) (b:c),xs[i]? = some a->d[i]? = some b->R a b
theorem F2.nil{α c:Type}{R:α->c->Prop}:F2 R [] []:=⟨rfl,λi a b h=>by simp at h⟩
theorem F2.app{α e:Type}{R:α->e->Prop}{xs k:List α}{j f:List e}(h:F2 R xs j)(g:F2 R k f):F2 R (xs++k) (j++f):=by
 refine⟨by simp[h.1,g.1],λi a b d c=>?_⟩;rcases bH i xs.length with hi|hi
 .rw[ah hi]at d;rw[ah (by rw[<-h.1];exact hi)]at c;exact h.2 i a b d c
 .rw[ai hi]at d;rw[ai (by rw[<-h.1];exact hi),<-h.1]at c;exact g.2 _ a b d c
def zf(k:IntKind)(v:Value):Prop:=∃n,v = .int k n/\(Lit.int k n).wf=true
def wD(w:World):CK->Value->Prop
 | .int k,v=>zf k v
 | .sl ks,v=>v = .slice none 0 0\/∃(a:Addr) (len cap:Nat),v = .slice (some a) len cap/\len<=cap/\cap<=maxLen/\∀i,i<len->∃ws,w.cells? 0 (a.add (i*ks.length)) ks.length=some ws/\F2 zf ks ws
theorem U'{w:World}:∀ {ks:List CK} {l:List IntKind} {ws:List Value},MG ks=some l->F2 (wD w) ks ws->F2 zf l ws
 | [],l,ws,h,h2=>by cases h;have:ws = []:=ay.1 h2.1.symm;subst this;exact .nil
 | .int k::r,l,ws,h,h2=>by
  simp only[MG,aj]at h;obtain⟨g,h1,rfl⟩:=h
  cases ws with
  | nil=>have:=h2.1;simp at this
  | cons v vs=>
   have f:F2 (wD w) r vs:=⟨by have:=h2.1;simpa using this,λi a b d c=>h2.2 (i+1) a b (by simpa using d) (by simpa using c)⟩;have e:zf k v:=h2.2 0 _ _ rfl rfl;have:=U' h1 f
   exact⟨by simp[this.1],λi a b d c=>by
    cases i with
    | zero=>simp at d c;subst d;subst c;exact e
    | succ i=>exact this.2 i a b (by simpa using d) (by simpa using c)⟩
 | .sl _::_,_,_,h,_=>by cases h
theorem SN{α c:Type}{f:α->Option c}:∀ {l:List α} {d:List c},l.mapM f=some d->∀x∈l,∃y,f x=some y
 | [],_,_,x,hx=>by cases hx
 | a::l,d,h,x,hx=>by
  rw[eQ]at h
  cases b:f a with
  | none=>rw[b]at h;cases h
  | some y=>
   rw[b]at h
   cases hl:l.mapM f with
   | none=>rw[hl]at h;cases h
   | some zs=>
    rcases av.1 hx with rfl|hx
    .exact⟨y,b⟩
    .exact SN hl x hx
section
variable{H:Type}{enc:TypeId×Value->H}{P:Program}{w:World}{sp:Nat->Bool}{held:Bool}
theorem U9{f:TypeId->Option (List CK)}{g:TypeId->List Value->Prop}(a:∀t ks cs,f t=some ks->g t cs->F2 (wD w) ks cs){cs:List Value}:∀ {fs:List Field} {o:Nat} {ks:List CK},MF f P fs o=some ks ->
  (∀x∈fs,g x.type ((cs.drop x.offset).take (P.cellsOf x.type)))->o+ks.length<=cs.length->F2 (wD w) ks ((cs.drop o).take ks.length)
 | [],o,ks,h,_,_=>by cases h;simp;exact .nil
 | x::r,o,ks,h,hg,hl=>by
  simp only[MF,ag]at h;obtain⟨k1,h1,h⟩:=h;split at h
  .rename_i b;obtain⟨k2,i,rfl⟩:=aj.1 h;rw[ak]at hl;have c:=a _ _ _ h1 (hg x (by simp));rw[b.1,<-b.2]at c;have j:=U9 a i (λy d=>hg y (by simp[d])) (by omega)
   have e:(cs.drop o).take (k1++k2).length=(cs.drop o).take k1.length++(cs.drop (o+k1.length)).take k2.length:=by rw[ak,List.take_add,b6]
   rw[e];exact c.app j
  .cases h
theorem abU{ks:List CK}{cs:List Value}(n:Nat)(h:∀i,i<n->F2 (wD w) ks ((cs.drop (i*ks.length)).take ks.length))(hl:n*ks.length<=cs.length):F2 (wD w) (List.replicate n ks).flatten (cs.take (n*ks.length)):=by
 induction n with
 | zero=>simp;exact .nil
 | succ n a=>
  have h1:=a (λi hi=>h i (by omega)) (by rw[cA]at hl;omega);have b:=h n (by omega);rw[eH,eO,cA,List.take_add];simp only[a7,ew,az];exact h1.app b
theorem MH:∀(d:Nat) (t:TypeId) (ks:List CK),zq P d t=some ks->∀(fuel:Nat) (cs:List Value) (x:DataW H×List MemPlace),DataW.trod enc P w 0 sp held fuel t cs=some x->F2 (wD w) ks cs
 | 0,_,_,h,_,_,_,_=>by cases h
 | d+1,t,ks,h,fuel,cs,x,c=>by
  unfold zq at h
  cases fuel with
  | zero=>cases c
  | succ fuel=>
  have C:=λt ks h cs=>MH d t ks h fuel cs;split at h
  .rename_i k o;cases h;unfold DataW.trod at c;simp only[o]at c
   match cs,c with
   | [.int k' n],c=>
    by_cases z:k'=k/\(Lit.int k n).wf=true
    .refine⟨rfl,λi a b p q=>?_⟩
     cases i with
     | zero=>
      simp at p q;subst p;subst q;exact⟨n,by rw[z.1],z.2⟩
     | succ i=>simp at p
    .simp[z]at c
  .rename_i e o;simp only[ag]at h;obtain⟨k1,h1,l,M,h⟩:=h;split at h
   .rename_i j;cases h
    have A:wD w (.sl l) (cs.headD undef)/\cs.length=1:=by
     rcases Go.Deep.open_slice o c with⟨rfl,_⟩|⟨a,len,cap,m,n,D,N,rfl,_,u,K,L,_,I⟩
     .exact⟨.inl rfl,rfl⟩
     .refine⟨.inr ⟨a,len,cap,rfl,u,K,λi hi=>?_⟩,rfl⟩;obtain⟨ws,G,J⟩:=I i (by rw[L];split<;>omega);rw[j];exact⟨ws,G,U' M (MH d e k1 h1 n ws _ J)⟩
    match cs,A with
    | [v],A=>
     refine⟨rfl,λi a b p q=>?_⟩
     cases i with
     | zero=>simp at p q;subst p;subst q;exact A.1
     | succ i=>simp at p
   .cases h
  .rename_i n e o;simp only[ag]at h;obtain⟨k1,h1,h⟩:=h;split at h
   .rename_i j;cases h;unfold DataW.trod at c;simp only[o]at c;split at c
    .rename_i B;obtain⟨F,r,_⟩:=aj.1 c;have s:=SN r
     have:=abU (w:=w) (ks:=k1) (cs:=cs) n (λi hi=>by
      obtain⟨y,E⟩:=s i (by simpa using hi);rw[<-j.1]at E
      exact C e k1 h1 _ y E) (by rw[B,j.2];exact Nat.le_refl _)
     rwa [af (by rw[B,j.2];exact Nat.le_refl _)]at this
    .cases c
   .cases h
  .rename_i fs o;simp only[ag]at h;obtain⟨k1,h1,h⟩:=h;split at h
   .rename_i j;cases h;unfold DataW.trod at c;simp only[o]at c;split at c
    .rename_i B;obtain⟨F,r,_⟩:=aj.1 c;have s:=SN r;have:=U9 (P:=P) (w:=w) (f:=zq P d) (g:=λt cs=>∃x,DataW.trod enc P w 0 sp held fuel t cs=some x) (λt ks cs h ⟨x,c⟩=>C t ks h cs x c) (cs:=cs) h1 (λx c=>s x c) (by omega);rwa [eU,af (by omega)]at this
    .cases c
   .cases h
  .cases h
end
def xG:CK->D->Prop
 | .int k,d=>∃n,d = .val (.int k n)/\(Lit.int k n).wf=true
 | .sl ks,d=>∃(len:Nat) (W:Nat->List Value),d = .sl ks.length ((List.range len).map λi=>(W i).map D.val)/\∀i,i<len->F2 zf ks (W i)
theorem MB{w:World}{a:Addr}{v:Value}(h:w.cell? a=some v):a.block<w.heap.size:=by
 unfold World.cell? at h
 cases b:w.heap[a.block]? with
 | none=>rw[b]at h;cases h
 | some o=>exact(aP.1 b).1
theorem PQ{w:World}{a:Addr}{v:Value}(h:w.cell? a=some v):a.spot=none:=by
 unfold World.cell? at h;split at h
 .split at h
  .cases h
  .rename_i hs;simpa using hs
 .cases h
theorem SO{α e:Type}{f:α->Option e}:∀ {l:List α} {b:List e},l.mapM f=some b->b.length=l.length/\∀(i:Nat) (x:α),l[i]? = some x->f x=b[i]?
 | [],b,h=>by cases h;exact⟨rfl,λi x h=>by simp at h⟩
 | a::l,b,h=>by
  rw[eQ]at h
  cases d:f a with
  | none=>rw[d]at h;cases h
  | some y=>
   rw[d]at h
   cases hl:l.mapM f with
   | none=>rw[hl]at h;cases h
   | some zs=>
    rw[hl]at h;cases h;obtain⟨h1,g⟩:=SO hl;refine⟨by simp[h1],λi x c=>?_⟩
    cases i with
    | zero=>simp at c;subst c;simp[d]
    | succ i=>simpa using g i x (by simpa using c)
theorem PR{w:World}{a:Addr}{n:Nat}{ws:List Value}(h:w.cells? 0 a n=some ws):ws.length=n/\∀j,j<n->w.cell? (a.add j)=ws[j]? := by unfold World.cells? at h;rw[if_pos (Nat.zero_le _)]at h;obtain⟨h1,c⟩:=SO h;exact⟨by simpa using h1,λj b=>c j j (by simp[b])⟩
theorem UJ{a:Addr}(hs:a.spot=none)(n:Nat):a.add n=⟨a.block,a.off+n,none⟩:=by
 unfold Addr.add;split
 .rename_i h;subst h;cases a;simp_all
 .simp
theorem agG{k:IntKind}{v:Value}(h:zf k v):v.oneCell'=true:=by obtain⟨n,rfl,_⟩:=h;rfl
theorem ang{c:Ctx}{w:World}(z:∀b,b<w.heap.size->c.F b){ck:CK}{v:Value}(h:wD w ck v):∃d,xG ck d/\gh c w v d/\v.oneCell'=true:=by
 cases ck with
 | int k=>
  obtain⟨n,rfl,h⟩:=h;exact⟨_,⟨n,rfl,h⟩,.val _,rfl⟩
 | sl ks=>
  rcases h with rfl|⟨a,len,cap,rfl,hle,ka,rT⟩
  .refine⟨_,⟨0,λ_=>[],rfl,λi hi=>by omega⟩,?_,rfl⟩;exact .sl none 0 0 _ _ (λ_ _=>undef) rfl (Nat.le_refl _) (by decide) (λe f=>by simp at f) (λ_=>rfl) (λi e j d f=>by simp at f) (λi e j d f=>by simp at f)
  .have t:∃W:Nat->List Value,∀i,i<len->w.cells? 0 (a.add (i*ks.length)) ks.length=some (W i)/\F2 zf ks (W i):=
    ⟨λi=>if h:i<len then Classical.choose (rT i h)else [],λi hi=>by simp only[hi,dite_true];exact cH (rT i hi)⟩
   obtain⟨W,o⟩:=t;refine⟨_,⟨len,W,rfl,λi hi=>(o i hi).2⟩,?_,rfl⟩
   have key:∀(i:Nat) (e:List D) (j:Nat) (d:D),((List.range len).map λi=>(W i).map D.val)[i]? = some e->e[j]? = some d->i<len/\∃v,(W i)[j]? = some v/\d = .val v/\v.oneCell'=true/\w.cell? ((a.add (i*ks.length)).add j)=some v:=by
    intro i e j d f l;have hi:i<len:=by have:=(ae.1 f).1;simpa using this
    rw[au,bN hi,aH,aq]at f;subst f;rw[au,aj]at l;obtain⟨v,g,rfl⟩:=l;obtain⟨h1,A⟩:=o i hi;obtain⟨u,q⟩:=PR h1;have r:j<ks.length:=by have:=(ae.1 g).1;omega
    exact⟨hi,v,g,rfl,agG (A.2 j _ v (List.getElem?_eq_getElem r) g),by rw[q j r,g]⟩
   refine .sl (some a) len cap ks.length _ (λi j=>(W i).getD j undef) (by simp) hle ka (λe f=>?_) (λh=>by cases h) (λi e j d f l=>?_) (λi e j d f l=>?_)
   .obtain⟨i,hi,rfl⟩:=ar.1 f;rw[List.length_map];exact(o i (by simpa using hi)).2.1.symm
   .obtain⟨hi,v,g,rfl,h1,m⟩:=key i e j d f l
    have x:a.spot=none:=by
     by_cases s:i*ks.length=0
     .by_cases r:j=0
      .rw[s,r]at m;exact PQ (a:=a) m
      .have h0:=(o i hi).1;obtain⟨u,q⟩:=PR h0;have B:j<ks.length:=by have:=(ae.1 g).1;omega
       have p:=q 0 (by omega);rw[List.getElem?_eq_getElem (show 0<(W i).length by omega),s]at p;exact PQ (a:=a) p
     .have h0:=(o 0 (by omega)).1;obtain⟨u,q⟩:=PR h0;have y:0<ks.length:=Nat.pos_of_ne_zero λe=>s (by rw[e];simp);have p:=q 0 y;rw[List.getElem?_eq_getElem (show 0<(W 0).length by omega),cQ]at p;exact PQ (a:=a) p
    rw[UJ x,UJ rfl]at m;refine⟨a.block,a.off,by cases a;simp_all,z _ (by have:=MB m;exact this),?_,?_⟩
    .rw[List.getD_eq_getElem?_getD,g,aZ,<-m,a8]
    .rw[List.getD_eq_getElem?_getD,g];exact h1
   .obtain⟨hi,v,g,rfl,h1,m⟩:=key i e j d f l;rw[List.getD_eq_getElem?_getD,g];exact .val _
theorem Tn{c:Ctx}{w:World}(n:∀b,b<w.heap.size->c.F b):∀ {ks:List CK} {vs:List Value},F2 (wD w) ks vs->∃ds,F2 xG ks ds/\Cells c w vs ds
 | [],vs,h=>by have:vs = []:=ay.1 h.1.symm;subst this;exact⟨[],.nil,rfl,λv l=>by simp at l,λi v d l=>by simp at l⟩
 | k::ks,[],h=>by have:=h.1;simp at this
 | k::ks,v::vs,h=>by
  obtain⟨ds,h1,m⟩:=Tn n (ks:=ks) (vs:=vs) ⟨by have:=h.1;simpa using this,λi a b g f=>h.2 (i+1) a b (by simpa using g) (by simpa using f)⟩;obtain⟨d,q,p,o⟩:=ang (c:=c) n (h.2 0 k v rfl rfl);refine⟨d::ds,⟨by simp[h1.1],λi a b g f=>?_⟩,by simp[m.len],λx e=>?_,λi x y e j=>?_⟩
  .cases i with
   | zero=>simp at g f;subst g;subst f;exact q
   | succ i=>exact h1.2 i a b (by simpa using g) (by simpa using f)
  .rcases av.1 e with rfl|e
   .exact o
   .exact m.one x e
  .cases i with
   | zero=>simp at e j;subst e;subst j;exact p
   | succ i=>exact m.rep i x y (by simpa using e) (by simpa using j)
theorem F2.cons{α e:Type}{R:α->e->Prop}{a:α}{xs:List α}{d:List e}(h:F2 R (a::xs) d):∃b c,d=b::c/\R a b/\F2 R xs c:=by
 cases d with
 | nil=>have:=h.1;simp at this
 | cons b c=>exact⟨b,c,rfl,h.2 0 a b rfl rfl,by have:=h.1;simpa using this,λi x y g f=>h.2 (i+1) x y (by simpa using g) (by simpa using f)⟩
theorem F2.done{α a:Type}{R:α->a->Prop}{b:List a}(h:F2 R [] b):b = []:=ay.1 h.1.symm
end Go.AL
namespace Go.Proofs.YtmehofoficaelaaGreatDoor
open Go Go.AL
set_option maxRecDepth 10000
theorem I'{d:D}(h:xG (.int .u8) d):∃n,d = .val (.int .u8 n)/\mn n:=by
 obtain⟨n,rfl,h⟩:=h;simp only[Lit.wf,Bool.and_eq_true,decide_eq_true_eq]at h;have h1:IntKind.u8.min=0:=by decide
 have a:IntKind.u8.max=255:=by decide
 refine⟨n,rfl,?_,?_⟩<;>omega
theorem yC{v:Value}(h:zf .u8 v):∃n,v = .int .u8 n/\mn n:=by obtain⟨n,rfl,h⟩:=h;obtain⟨m,h1,a⟩:=I' ⟨n,rfl,h⟩;simp only[D.val.injEq,Value.int.injEq]at h1;obtain⟨_,rfl⟩:=h1;exact⟨n,rfl,a⟩
theorem PJ{d:D}(h:xG (.sl [.u8]) d):∃l:List Int,d=dU l/\∀n∈l,mn n:=by
 obtain⟨len,W,rfl,h⟩:=h
 have:∀i,i<len->∃n,W i = [.int .u8 n]/\mn n:=λi hi=>by obtain⟨b,m,h1,k,j⟩:=(h i hi).cons;obtain⟨n,rfl,g⟩:=yC k;exact⟨n,by rw[h1,j.done],g⟩
 have a:∃f:Nat->Int,∀i,i<len->W i = [.int .u8 (f i)]/\mn (f i):=
  ⟨λi=>if h:i<len then Classical.choose (this i h)else 0,λi hi=>by simp only[hi,dite_true];exact cH (this i hi)⟩
 obtain⟨f,c⟩:=a;refine⟨(List.range len).map f,?_,λn e=>?_⟩
 .unfold dU;rw[cz];congr 1;refine aw λi hi=>?_;rw[(c i (by simpa using hi)).1];simp
 .obtain⟨i,hi,rfl⟩:=ar.1 e;exact(c i (by simpa using hi)).2
theorem aoA{d:D}(h:xG (.sl [.u8,.u8,.u8]) d):∃l:List (Int×Int×Int),d = .sl 3 (l.map fT)/\∀x∈l,mn x.1/\mn x.2.1/\mn x.2.2:=by
 obtain⟨len,W,rfl,h⟩:=h
 have:∀i,i<len->∃x:Int×Int×Int,W i = [.int .u8 x.1,.int .u8 x.2.1,.int .u8 x.2.2]/\mn x.1/\mn x.2.1/\mn x.2.2:=λi hi=>by obtain⟨b,z,h1,s,r⟩:=(h i hi).cons;obtain⟨A,y,rfl,v,e⟩:=r.cons;obtain⟨t,u,rfl,k,j⟩:=e.cons;obtain⟨n,rfl,q⟩:=yC s;obtain⟨o,rfl,w⟩:=yC v;obtain⟨a,rfl,g⟩:=yC k;exact⟨(n,o,a),by rw[h1,j.done],q,w,g⟩
 have c:∃f:Nat->Int×Int×Int,∀i,i<len->W i = [.int .u8 (f i).1,.int .u8 (f i).2.1,.int .u8 (f i).2.2]/\mn (f i).1/\mn (f i).2.1/\mn (f i).2.2:=
  ⟨λi=>if h:i<len then Classical.choose (this i h)else(0,0,0),λi hi=>by simp only[hi,dite_true];exact cH (this i hi)⟩
 obtain⟨f,m⟩:=c;refine⟨(List.range len).map f,?_,λn p=>?_⟩
 .rw[cz];congr 1;refine aw λi hi=>?_;rw[(m i (by simpa using hi)).1];simp
 .obtain⟨i,hi,rfl⟩:=ar.1 p;exact(m i (by simpa using hi)).2
theorem abe:∀ {n:Nat} {ks:List CK} {ds:List D},F2 xG (List.replicate n (.int .u8)++ks) ds->∃(l:List Int) (r:List D),l.length=n/\(∀m∈l,mn m)/\ds=l.map (λn=>.val (.int .u8 n))++r/\F2 xG ks r
 | 0,ks,ds,h=>⟨[],ds,rfl,by simp,rfl,by simpa using h⟩
 | n+1,ks,ds,h=>by rw[bp,bU]at h;obtain⟨d,r,rfl,h1,g⟩:=h.cons;obtain⟨m,rfl,b⟩:=I' h1;obtain⟨l,a,f,e,rfl,c⟩:=abe g;exact⟨m::l,a,by simp[f],by simpa using ⟨b,e⟩,rfl,c⟩
theorem acy(l:List Int):cl fU l=l.map λn=>.val (.int .u8 n):=by
 unfold cl
 induction l with
 | nil=>rfl
 | cons a l b=>simp[b]
theorem ab4{ds:List D}(h:F2 xG ([.int .u8,.int .u8,.int .u8,.sl [.u8],.sl [.u8],.sl [.u8,.u8,.u8]]++List.replicate 24 (.int .u8) ++ [.sl [.u8]]) ds):∃x:qv,x.cells=ds/\Jh x:=by
 rw[aL]at h;simp only[bU,bq]at h;obtain⟨d0,O,rfl,h0,B⟩:=h.cons;obtain⟨d1,N,rfl,h1,A⟩:=B.cons;obtain⟨d2,M,rfl,q,z⟩:=A.cons;obtain⟨d3,L,rfl,o,y⟩:=z.cons;obtain⟨d4,K,rfl,m,v⟩:=y.cons;obtain⟨d5,J,rfl,k,u⟩:=v.cons;obtain⟨w,rfl,w'⟩:=I' h0;obtain⟨i,rfl,e⟩:=I' h1;obtain⟨c,rfl,c'⟩:=I' q;obtain⟨k0,rfl,d⟩:=PJ o;obtain⟨k1,rfl,b⟩:=PJ m;obtain⟨cs,rfl,g⟩:=aoA k;obtain⟨l,r,hl,a,rfl,t⟩:=abe (n:=24) (ks:=[.sl [.u8]]) u;obtain⟨d6,I,rfl,j,s⟩:=t.cons;obtain⟨p,rfl,f⟩:=PJ j;obtain rfl:=s.done
 match l,hl,a with
 | f0::f1::f2::f3::f4::f5::l,hl,a=>
  simp only[aJ,Nat.reduceEqDiff]at hl;simp only[av,forall_eq_or_imp]at a;obtain⟨H,G,b2,F,E,C,a⟩:=a;refine⟨⟨⟨w,i,c,k0,k1,cs,f0,f1,f2,f3,f4,f5⟩,l,p⟩,?_,⟨⟨w',e,c',d,b,g,H,G,b2,F,E,C⟩,by simpa using hl,a,f⟩⟩;simp[qv.cells,Raw.cells,acy]
