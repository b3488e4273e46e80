/- 27 -/
import Derived.Deep.Slices
import Derived.Test.YtmehofoficaelaaGreatDoorV25
import Derived.Test.YtmehofoficaelaaGreatDoorV26
set_option linter.all false
open Go renaming Value→aE,IntKind→cp,World→dr,TypeId→dx,Program→ek
open List renaming getD_eq_getElem?_getD→bb,getElem?_eq_getElem→bs,replicate→di,range→eh,take_add→ep,length→List.l
open Option renaming some→b4,none→en
open Go.DataW renaming trod→cc
namespace Go.AL
open Go
inductive CK where
 | int (k:cp)
 | sl (ks:List cp)
def MB:List CK->Option (List cp)
 | []=>b4 []
 | .int k::r=>(MB r).map (k :: ·)
 | _=>en
def MA(f:dx->Option (List CK))(P:ek):List Field->Nat->Option (List CK)
 | [],_=>b4 []
 | x::r,o=>(f x.type).bind λks=>if x.offset=o/\ks.l=P.cellsOf x.type then(MA f P r (o+ks.l)).map (ks ++ ·)else en
def zw(P:ek):Nat->dx->Option (List CK)
 | 0,_=>en
 | d+1,t=>match P.underlying t with
  | some (.int k)=>b4 [.int k]
  | some (.slice e)=>(zw P d e).bind λks=>(MB ks).bind λl=>if l.l=P.cellsOf e then b4 [.sl l]else en
  | some (.array n e)=>(zw P d e).bind λks=>if ks.l=P.cellsOf e/\P.cellsOf t=n*ks.l then b4 (di n ks).flatten else en
  | some (.struct fs)=>(MA (zw P d) P fs.toList 0).bind λks=>if ks.l=P.cellsOf t then b4 ks else en
  | _=>en
def F2{α c:Type}(R:α->c->Prop)(xs:List α)(d:List c):Prop:=xs.l=d.l/\∀(i:Nat) (a:α) (b:c),xs[i]? = b4 a->d[i]? = b4 b->R a b
def F2.nil{α c:Type}{R:α->c->Prop}:F2 R [] []:=⟨rfl,λi a b h=>by simp at h⟩
def F2.app{α e:Type}{R:α->e->Prop}{xs k:List α}{j f:List e}(h:F2 R xs j)(g:F2 R k f):F2 R (xs++k) (j++f):=by
 refine⟨by simp[h.1,g.1],λi a b d c=>?_⟩;rcases bB i xs.l with hi|hi
 .rw[ah hi]at d;rw[ah (by rw[<-h.1];exact hi)]at c;exact h.2 i a b d c
 .rw[ak hi]at d;rw[ak (by rw[<-h.1];exact hi),<-h.1]at c;exact g.2 _ a b d c
def zj(k:cp)(v:aE):Prop:=∃n,v = .int k n/\(Lit.int k n).wf=true
def wE(w:dr):CK->aE->Prop
 | .int k,v=>zj k v
 | .sl ks,v=>v = .slice en 0 0\/∃(a:Addr) (len cap:Nat),v = .slice (b4 a) len cap/\len<=cap/\cap<=maxLen/\∀i,i<len->∃ws,w.cells? 0 (a.add (i*ks.l)) ks.l=b4 ws/\F2 zj ks ws
theorem U'{w:dr}:∀ {ks:List CK} {l:List cp} {ws:List aE},MB ks=b4 l->F2 (wE w) ks ws->F2 zj l ws
 | [],l,ws,h,h2=>by cases h;have:ws = []:=aA.1 h2.1.symm;subst this;exact .nil
 | .int k::r,l,ws,h,h2=>by
  simp only[MB,ao]at h;obtain⟨g,h1,rfl⟩:=h
  cases ws with
  | nil=>have:=h2.1;simp at this
  | cons v vs=>
   have f:F2 (wE w) r vs:=⟨by have:=h2.1;simpa using this,λi a b d c=>h2.2 (i+1) a b (by simpa using d) (by simpa using c)⟩;have e:zj k v:=h2.2 0 _ _ rfl rfl;have:=U' h1 f
   exact⟨by simp[this.1],λi a b d c=>by
    cases i with
    | zero=>simp at d c;subst d;subst c;exact e
    | succ i=>exact this.2 i a b (by simpa using d) (by simpa using c)⟩
 | .sl _::_,_,_,h,_=>by cases h
theorem SO{α c:Type}{f:α->Option c}:∀ {l:List α} {d:List c},l.mapM f=b4 d->∀x∈l,∃y,f x=b4 y
 | [],_,_,x,hx=>by cases hx
 | a::l,d,h,x,hx=>by
  rw[eO]at h
  cases b:f a with
  | none=>rw[b]at h;cases h
  | some y=>
   rw[b]at h
   cases hl:l.mapM f with
   | none=>rw[hl]at h;cases h
   | some zs=>
    rcases av.1 hx with rfl|hx
    .exact⟨y,b⟩
    .exact SO hl x hx
section
variable{H:Type}{enc:dx×aE->H}{P:ek}{w:dr}{sp:Nat->Bool}{held:Bool}
theorem U9{f:dx->Option (List CK)}{g:dx->List aE->Prop}(a:∀t ks cs,f t=b4 ks->g t cs->F2 (wE w) ks cs){cs:List aE}:∀ {fs:List Field} {o:Nat} {ks:List CK},MA f P fs o=b4 ks ->
  (∀x∈fs,g x.type ((cs.drop x.offset).take (P.cellsOf x.type)))->o+ks.l<=cs.l->F2 (wE w) ks ((cs.drop o).take ks.l)
 | [],o,ks,h,_,_=>by cases h;simp;exact .nil
 | x::r,o,ks,h,hg,hl=>by
  simp only[MA,ag]at h;obtain⟨k1,h1,h⟩:=h;split at h
  .rename_i b;obtain⟨k2,i,rfl⟩:=ao.1 h;rw[aq]at hl;have c:=a _ _ _ h1 (hg x fZ);rw[b.1,<-b.2]at c;have j:=U9 a i (λy d=>hg y (by simp[d])) U
   have e:(cs.drop o).take (k1++k2).l=(cs.drop o).take k1.l++(cs.drop (o+k1.l)).take k2.l:=by rw[aq,ep,b9]
   rw[e];exact c.app j
  .cases h
theorem ab0{ks:List CK}{cs:List aE}(n:Nat)(h:∀i,i<n->F2 (wE w) ks ((cs.drop (i*ks.l)).take ks.l))(hl:n*ks.l<=cs.l):F2 (wE w) (di n ks).flatten (cs.take (n*ks.l)):=by
 induction n with
 | zero=>simp;exact .nil
 | succ n a=>
  have h1:=a (λi hi=>h i U) (by rw[cH]at hl;omega);have b:=h n U;rw[eF,eM,cH,ep];simp only[a7,ew,aB];exact h1.app b
theorem MC:∀(d:Nat) (t:dx) (ks:List CK),zw P d t=b4 ks->∀(fuel:Nat) (cs:List aE) (x:DataW H×List MemPlace),cc enc P w 0 sp held fuel t cs=b4 x->F2 (wE w) ks cs
 | 0,_,_,h,_,_,_,_=>by cases h
 | d+1,t,ks,h,fuel,cs,x,c=>by
  unfold zw at h
  cases fuel with
  | zero=>cases c
  | succ fuel=>
  have C:=λt ks h cs=>MC d t ks h fuel cs;split at h
  .rename_i k o;cases h;unfold cc at c;simp only[o]at c
   match cs,c with
   | [.int k' n],c=>
    by_cases z:k'=k/\(Lit.int k n).wf=true
    .refine⟨rfl,λi a b p q=>?_⟩
     cases i with
     | zero=>
      simp at p q;subst p;subst q;exact⟨n,by rw[z.1],z.2⟩
     | succ i=>simp at p
    .simp[z]at c
  .rename_i e o;simp only[ag]at h;obtain⟨k1,h1,l,M,h⟩:=h;split at h
   .rename_i j;cases h
    have A:wE w (.sl l) (cs.headD undef)/\cs.l=1:=by
     rcases Go.Deep.open_slice o c with⟨rfl,_⟩|⟨a,len,cap,m,n,D,N,rfl,_,u,K,L,_,I⟩
     .exact⟨.inl rfl,rfl⟩
     .refine⟨.inr ⟨a,len,cap,rfl,u,K,λi hi=>?_⟩,rfl⟩;obtain⟨ws,G,J⟩:=I i (by rw[L];split<;>omega);rw[j];exact⟨ws,G,U' M (MC d e k1 h1 n ws _ J)⟩
    match cs,A with
    | [v],A=>
     refine⟨rfl,λi a b p q=>?_⟩
     cases i with
     | zero=>simp at p q;subst p;subst q;exact A.1
     | succ i=>simp at p
   .cases h
  .rename_i n e o;simp only[ag]at h;obtain⟨k1,h1,h⟩:=h;split at h
   .rename_i j;cases h;unfold cc at c;simp only[o]at c;split at c
    .rename_i B;obtain⟨F,r,_⟩:=ao.1 c;have s:=SO r
     have:=ab0 (w:=w) (ks:=k1) (cs:=cs) n (λi hi=>by
      obtain⟨y,E⟩:=s i (by simpa using hi);rw[<-j.1]at E
      exact C e k1 h1 _ y E) (by rw[B,j.2];exact Nat.le_refl _)
     rwa [af (by rw[B,j.2];exact Nat.le_refl _)]at this
    .cases c
   .cases h
  .rename_i fs o;simp only[ag]at h;obtain⟨k1,h1,h⟩:=h;split at h
   .rename_i j;cases h;unfold cc at c;simp only[o]at c;split at c
    .rename_i B;obtain⟨F,r,_⟩:=ao.1 c;have s:=SO r;have:=U9 (P:=P) (w:=w) (f:=zw P d) (g:=λt cs=>∃x,cc enc P w 0 sp held fuel t cs=b4 x) (λt ks cs h ⟨x,c⟩=>C t ks h cs x c) (cs:=cs) h1 (λx c=>s x c) U;rwa [eR,af U]at this
    .cases c
   .cases h
  .cases h
end
def wF:CK->D->Prop
 | .int k,d=>∃n,d = .val (.int k n)/\(Lit.int k n).wf=true
 | .sl ks,d=>∃(len:Nat) (W:Nat->List aE),d = .sl ks.l ((eh len).map λi=>(W i).map D.val)/\∀i,i<len->F2 zj ks (W i)
def Mx{w:dr}{a:Addr}{v:aE}(h:w.cell? a=b4 v):a.block<w.heap.size:=by
 unfold World.cell? at h
 cases b:w.heap[a.block]? with
 | none=>rw[b]at h;cases h
 | some o=>exact(aQ.1 b).1
def PU{w:dr}{a:Addr}{v:aE}(h:w.cell? a=b4 v):a.spot=none:=by
 unfold World.cell? at h;split at h
 .split at h
  .cases h
  .rename_i hs;simpa using hs
 .cases h
theorem SP{α e:Type}{f:α->Option e}:∀ {l:List α} {b:List e},l.mapM f=b4 b->b.l=l.l/\∀(i:Nat) (x:α),l[i]? = b4 x->f x=b[i]?
 | [],b,h=>by cases h;exact⟨rfl,λi x h=>by simp at h⟩
 | a::l,b,h=>by
  rw[eO]at h
  cases d:f a with
  | none=>rw[d]at h;cases h
  | some y=>
   rw[d]at h
   cases hl:l.mapM f with
   | none=>rw[hl]at h;cases h
   | some zs=>
    rw[hl]at h;cases h;obtain⟨h1,g⟩:=SP hl;refine⟨by simp[h1],λi x c=>?_⟩
    cases i with
    | zero=>simp at c;subst c;simp[d]
    | succ i=>simpa using g i x (by simpa using c)
def PW{w:dr}{a:Addr}{n:Nat}{ws:List aE}(h:w.cells? 0 a n=b4 ws):ws.l=n/\∀j,j<n->w.cell? (a.add j)=ws[j]? := by unfold World.cells? at h;rw[if_pos (Nat.zero_le _)]at h;obtain⟨h1,c⟩:=SP h;exact⟨by simpa using h1,λj b=>c j j (by simp[b])⟩
def UG{a:Addr}(hs:a.spot=en)(n:Nat):a.add n=⟨a.block,a.off+n,en⟩:=by
 unfold Addr.add;split
 .rename_i h;subst h;cases a;simp_all
 .simp
def agL{k:cp}{v:aE}(h:zj k v):v.oneCell'=true:=by obtain⟨n,rfl,_⟩:=h;rfl
def am3{c:Ctx}{w:dr}(z:∀b,b<w.heap.size->c.F b){ck:CK}{v:aE}(h:wE w ck v):∃d,wF ck d/\gj c w v d/\v.oneCell'=true:=by
 cases ck with
 | int k=>
  obtain⟨n,rfl,h⟩:=h;exact⟨_,⟨n,rfl,h⟩,.val _,rfl⟩
 | sl ks=>
  rcases h with rfl|⟨a,len,cap,rfl,hle,jE,sC⟩
  .refine⟨_,⟨0,λ_=>[],rfl,λi hi=>U⟩,?_,rfl⟩;exact .sl en 0 0 _ _ (λ_ _=>undef) rfl (Nat.le_refl _) jh (λe f=>by simp at f) (λ_=>rfl) (λi e j d f=>by simp at f) (λi e j d f=>by simp at f)
  .have t:∃W:Nat->List aE,∀i,i<len->w.cells? 0 (a.add (i*ks.l)) ks.l=b4 (W i)/\F2 zj ks (W i):=
    ⟨λi=>if h:i<len then Classical.choose (sC i h)else [],λi hi=>by simp only[hi,dite_true];exact cK (sC i hi)⟩
   obtain⟨W,o⟩:=t;refine⟨_,⟨len,W,rfl,λi hi=>(o i hi).2⟩,?_,rfl⟩
   have key:∀(i:Nat) (e:List D) (j:Nat) (d:D),((eh len).map λi=>(W i).map D.val)[i]? = b4 e->e[j]? = b4 d->i<len/\∃v,(W i)[j]? = b4 v/\d = .val v/\v.oneCell'=true/\w.cell? ((a.add (i*ks.l)).add j)=b4 v:=by
    intro i e j d f l;have hi:i<len:=by have:=(ae.1 f).1;simpa using this
    rw[ax,bS hi,aH,ar]at f;subst f;rw[ax,ao]at l;obtain⟨v,g,rfl⟩:=l;obtain⟨h1,A⟩:=o i hi;obtain⟨u,q⟩:=PW h1;have r:j<ks.l:=by have:=(ae.1 g).1;omega
    exact⟨hi,v,g,rfl,agL (A.2 j _ v (bs r) g),by rw[q j r,g]⟩
   refine .sl (b4 a) len cap ks.l _ (λi j=>(W i).getD j undef) fZ hle jE (λe f=>?_) (λh=>by cases h) (λi e j d f l=>?_) (λi e j d f l=>?_)
   .obtain⟨i,hi,rfl⟩:=az.1 f;rw[List.length_map];exact(o i (by simpa using hi)).2.1.symm
   .obtain⟨hi,v,g,rfl,h1,m⟩:=key i e j d f l
    have x:a.spot=none:=by
     by_cases s:i*ks.l=0
     .by_cases r:j=0
      .rw[s,r]at m;exact PU (a:=a) m
      .have h0:=(o i hi).1;obtain⟨u,q⟩:=PW h0;have B:j<ks.l:=by have:=(ae.1 g).1;omega
       have p:=q 0 U;rw[bs (U:0<(W i).l),s]at p;exact PU (a:=a) p
     .have h0:=(o 0 U).1;obtain⟨u,q⟩:=PW h0;have y:0<ks.l:=Nat.pos_of_ne_zero λe=>s (by rw[e];simp);have p:=q 0 y;rw[bs (U:0<(W 0).l),cS]at p;exact PU (a:=a) p
    rw[UG x,UG rfl]at m;refine⟨a.block,a.off,by cases a;simp_all,z _ (by have:=Mx m;exact this),?_,?_⟩
    .rw[bb,g,aZ,<-m,a8]
    .rw[bb,g];exact h1
   .obtain⟨hi,v,g,rfl,h1,m⟩:=key i e j d f l;rw[bb,g];exact .val _
theorem To{c:Ctx}{w:dr}(n:∀b,b<w.heap.size->c.F b):∀ {ks:List CK} {vs:List aE},F2 (wE w) ks vs->∃ds,F2 wF ks ds/\Cells c w vs ds
 | [],vs,h=>by have:vs = []:=aA.1 h.1.symm;subst this;exact⟨[],.nil,rfl,λv l=>by simp at l,λi v d l=>by simp at l⟩
 | k::ks,[],h=>by have:=h.1;simp at this
 | k::ks,v::vs,h=>by
  obtain⟨ds,h1,m⟩:=To n (ks:=ks) (vs:=vs) ⟨by have:=h.1;simpa using this,λi a b g f=>h.2 (i+1) a b (by simpa using g) (by simpa using f)⟩;obtain⟨d,q,p,o⟩:=am3 (c:=c) n (h.2 0 k v rfl rfl);refine⟨d::ds,⟨by simp[h1.1],λi a b g f=>?_⟩,by simp[m.len],λx e=>?_,λi x y e j=>?_⟩
  .cases i with
   | zero=>simp at g f;subst g;subst f;exact q
   | succ i=>exact h1.2 i a b (by simpa using g) (by simpa using f)
  .rcases av.1 e with rfl|e
   .exact o
   .exact m.one x e
  .cases i with
   | zero=>simp at e j;subst e;subst j;exact p
   | succ i=>exact m.rep i x y (by simpa using e) (by simpa using j)
theorem F2.cons{α e:Type}{R:α->e->Prop}{a:α}{xs:List α}{d:List e}(h:F2 R (a::xs) d):∃b c,d=b::c/\R a b/\F2 R xs c:=by
 cases d with
 | nil=>have:=h.1;simp at this
 | cons b c=>exact⟨b,c,rfl,h.2 0 a b rfl rfl,by have:=h.1;simpa using this,λi x y g f=>h.2 (i+1) x y (by simpa using g) (by simpa using f)⟩
def F2.done{α a:Type}{R:α->a->Prop}{b:List a}(h:F2 R [] b):b = []:=aA.1 h.1.symm
end Go.AL
namespace Go.Proofs.YtmehofoficaelaaGreatDoor
open Go Go.AL
set_option maxRecDepth 10000
def Jj{d:D}(h:wF (.int .u8) d):∃n,d = .val (.int .u8 n)/\mA n:=by obtain⟨n,rfl,h⟩:=h;simp only[Lit.wf,ai,decide_eq_true_eq]at h;have h1:IntKind.u8.min=0:=jh;have a:IntKind.u8.max=255:=jh;refine⟨n,rfl,?_,?_⟩<;>omega
def yE{v:aE}(h:zj .u8 v):∃n,v = .int .u8 n/\mA n:=by obtain⟨n,rfl,h⟩:=h;obtain⟨m,h1,a⟩:=Jj ⟨n,rfl,h⟩;simp only[D.val.injEq,Value.int.injEq]at h1;obtain⟨_,rfl⟩:=h1;exact⟨n,rfl,a⟩
def PR{d:D}(h:wF (.sl [.u8]) d):∃l:List Int,d=dU l/\∀n∈l,mA n:=by
 obtain⟨len,W,rfl,h⟩:=h
 have:∀i,i<len->∃n,W i = [.int .u8 n]/\mA n:=λi hi=>by obtain⟨b,m,h1,k,j⟩:=(h i hi).cons;obtain⟨n,rfl,g⟩:=yE k;exact⟨n,by rw[h1,j.done],g⟩
 have a:∃f:Nat->Int,∀i,i<len->W i = [.int .u8 (f i)]/\mA (f i):=
  ⟨λi=>if h:i<len then Classical.choose (this i h)else 0,λi hi=>by simp only[hi,dite_true];exact cK (this i hi)⟩
 obtain⟨f,c⟩:=a;refine⟨(eh len).map f,?_,λn e=>?_⟩
 .unfold dU;rw[b7];congr 1;refine au λi hi=>?_;rw[(c i (by simpa using hi)).1];simp
 .obtain⟨i,hi,rfl⟩:=az.1 e;exact(c i (by simpa using hi)).2
def aor{d:D}(h:wF (.sl [.u8,.u8,.u8]) d):∃l:List (Int×Int×Int),d = .sl 3 (l.map fT)/\∀x∈l,mA x.1/\mA x.2.1/\mA x.2.2:=by
 obtain⟨len,W,rfl,h⟩:=h
 have:∀i,i<len->∃x:Int×Int×Int,W i = [.int .u8 x.1,.int .u8 x.2.1,.int .u8 x.2.2]/\mA x.1/\mA x.2.1/\mA x.2.2:=λi hi=>by obtain⟨b,z,h1,s,r⟩:=(h i hi).cons;obtain⟨A,y,rfl,v,e⟩:=r.cons;obtain⟨t,u,rfl,j,g⟩:=e.cons;obtain⟨n,rfl,q⟩:=yE s;obtain⟨o,rfl,w⟩:=yE v;obtain⟨a,rfl,k⟩:=yE j;exact⟨(n,o,a),by rw[h1,g.done],q,w,k⟩
 have c:∃f:Nat->Int×Int×Int,∀i,i<len->W i = [.int .u8 (f i).1,.int .u8 (f i).2.1,.int .u8 (f i).2.2]/\mA (f i).1/\mA (f i).2.1/\mA (f i).2.2:=
  ⟨λi=>if h:i<len then Classical.choose (this i h)else(0,0,0),λi hi=>by simp only[hi,dite_true];exact cK (this i hi)⟩
 obtain⟨f,m⟩:=c;refine⟨(eh len).map f,?_,λn p=>?_⟩
 .rw[b7];congr 1;refine au λi hi=>?_;rw[(m i (by simpa using hi)).1];simp
 .obtain⟨i,hi,rfl⟩:=az.1 p;exact(m i (by simpa using hi)).2
theorem TW:∀ {n:Nat} {ks:List CK} {ds:List D},F2 wF (di n (.int .u8)++ks) ds->∃(l:List Int) (r:List D),l.l=n/\(∀m∈l,mA m)/\ds=l.map (λn=>.val (.int .u8 n))++r/\F2 wF ks r
 | 0,ks,ds,h=>⟨[],ds,rfl,fZ,rfl,by simpa using h⟩
 | n+1,ks,ds,h=>by rw[br,cE]at h;obtain⟨d,r,rfl,h1,g⟩:=h.cons;obtain⟨m,rfl,b⟩:=Jj h1;obtain⟨l,a,f,e,rfl,c⟩:=TW g;exact⟨m::l,a,by simp[f],by simpa using ⟨b,e⟩,rfl,c⟩
def acD(l:List Int):cl fU l=l.map λn=>.val (.int .u8 n):=by
 unfold cl
 induction l with
 | nil=>rfl
 | cons a l b=>simp[b]
def aca{ds:List D}(h:F2 wF ([.int .u8,.int .u8,.int .u8,.sl [.u8],.sl [.u8],.sl [.u8,.u8,.u8]]++di 24 (.int .u8) ++ [.sl [.u8]]) ds):∃x:qx,x.cells=ds/\Jr x:=by
 rw[aL]at h;simp only[cE,bI]at h;obtain⟨d0,O,rfl,h0,B⟩:=h.cons;obtain⟨d1,N,rfl,h1,A⟩:=B.cons;obtain⟨d2,M,rfl,q,z⟩:=A.cons;obtain⟨d3,L,rfl,o,y⟩:=z.cons;obtain⟨d4,K,rfl,m,v⟩:=y.cons;obtain⟨d5,J,rfl,k,u⟩:=v.cons;obtain⟨w,rfl,w'⟩:=Jj h0;obtain⟨i,rfl,e⟩:=Jj h1;obtain⟨c,rfl,c'⟩:=Jj q;obtain⟨k0,rfl,d⟩:=PR o;obtain⟨k1,rfl,b⟩:=PR m;obtain⟨cs,rfl,g⟩:=aor k;obtain⟨l,r,hl,a,rfl,t⟩:=TW (n:=24) (ks:=[.sl [.u8]]) u;obtain⟨d6,I,rfl,j,s⟩:=t.cons;obtain⟨p,rfl,f⟩:=PR j;obtain rfl:=s.done
 match l,hl,a with
 | f0::f1::f2::f3::f4::f5::l,hl,a=>
  simp only[aI,Nat.reduceEqDiff]at hl;simp only[av,forall_eq_or_imp]at a;obtain⟨H,G,b2,F,E,C,a⟩:=a;refine⟨⟨⟨w,i,c,k0,k1,cs,f0,f1,f2,f3,f4,f5⟩,l,p⟩,?_,⟨⟨w',e,c',d,b,g,H,G,b2,F,E,C⟩,by simpa using hl,a,f⟩⟩;simp[qx.cells,Raw.cells,acD]
