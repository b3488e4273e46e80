/- Part 32 of DisputeLocal. -/
import Derived.Deep.Slices
import Derived.Test.YtmehofoficaelaaGreatDoorL30
import Derived.Test.YtmehofoficaelaaGreatDoorL31
set_option linter.all false
namespace Go.AL
open Go
inductive CK where
 | int (k:IntKind)
 | sl (ks:List IntKind)
def Gy:List CK→Option (List IntKind)
 | []=>some []
 | .int k::r=>(Gy r).map (k :: ·)
 | _=>none
def Gx(f:TypeId→Option (List CK))(P:Program):List Field→Nat→Option (List CK)
 | [],_=>some []
 | x::r,o=>(f x.type).bind fun ks=>if x.offset=o∧ks.length=P.cellsOf x.type then(Gx f P r (o+ks.length)).map (ks ++ ·)else none
def vo(P:Program):Nat→TypeId→Option (List CK)
 | 0,_=>none
 | d+1,t=>match P.underlying t with
  | some (.int k)=>some [.int k]
  | some (.slice e)=>(vo P d e).bind fun ks=>(Gy ks).bind fun l=>if l.length=P.cellsOf e then some [.sl l]else none
  | some (.array n e)=>(vo P d e).bind fun ks=>if ks.length=P.cellsOf e∧P.cellsOf t=n*ks.length then some (List.replicate n ks).flatten else none
  | some (.struct fs)=>(Gx (vo P d) P fs.toList 0).bind fun ks=>if ks.length=P.cellsOf t then some ks else none
  | _=>none
def F2{α β:Type}(R:α→β→Prop)(xs:List α)(bs:List β):Prop:=xs.length=bs.length∧∀ (i:Nat) (a:α) (b:β),xs[i]? = some a→bs[i]? = some b→R a b
def F2.nil{α β:Type}{R:α→β→Prop}:F2 R [] []:=⟨rfl,fun i a b h=>by simp at h⟩
def F2.app{α β:Type}{R:α→β→Prop}{xs Nh:List α}{bs vg:List β}(h:F2 R xs bs)(h':F2 R Nh vg):F2 R (xs++Nh) (bs++vg):=by
 refine⟨by simp[h.1,h'.1],fun i a b ha hb=>?_⟩
 rcases a8 i xs.length with hi|hi
 ·rw[ag hi]at ha
  rw[ag (by rw[← h.1];exact hi)]at hb
  exact h.2 i a b ha hb
 ·rw[ao hi]at ha
  rw[ao (by rw[← h.1];exact hi),← h.1]at hb
  exact h'.2 _ a b ha hb
def u7(k:IntKind)(v:Value):Prop:=∃ n,v = .int k n∧(Lit.int k n).wf=true
def sF(w:World):CK→Value→Prop
 | .int k,v=>u7 k v
 | .sl ks,v=>v = .slice none 0 0∨∃ (a:Addr) (len cap:Nat),v = .slice (some a) len cap∧len≤cap∧cap≤maxLen∧∀ i,i<len→∃ ws,w.cells? 0 (a.add (i*ks.length)) ks.length=some ws∧F2 u7 ks ws
theorem OI{w:World}:∀ {ks:List CK} {l:List IntKind} {ws:List Value},Gy ks=some l→F2 (sF w) ks ws→F2 u7 l ws
 | [],l,ws,h,h2=>by
  cases h
  have:ws = []:=aB.1 h2.1.symm
  subst this;exact .nil
 | .int k::r,l,ws,h,h2=>by
  simp only[Gy,aj]at h
  obtain⟨l',h1,rfl⟩:=h
  cases ws with
  | nil=>have:=h2.1;simp at this
  | cons v vs=>
   have hr:F2 (sF w) r vs:=⟨by have:=h2.1;simpa using this,fun i a b ha hb=>h2.2 (i+1) a b (by simpa using ha) (by simpa using hb)⟩
   have hv:u7 k v:=h2.2 0 _ _ rfl rfl
   have:=OI h1 hr
   exact⟨by simp[this.1],fun i a b ha hb=>by
    cases i with
    | zero=>simp at ha hb;subst ha;subst hb;exact hv
    | succ i=>exact this.2 i a b (by simpa using ha) (by simpa using hb)⟩
 | .sl _::_,_,_,h,_=>by cases h
theorem L8{α β:Type}{f:α→Option β}:∀ {l:List α} {ys:List β},l.mapM f=some ys→∀ x∈l,∃ y,f x=some y
 | [],_,_,x,hx=>by cases hx
 | a::l,ys,h,x,hx=>by
  rw[dM]at h
  cases ha:f a with
  | none=>rw[ha]at h;cases h
  | some y=>
   rw[ha]at h
   cases hl:l.mapM f with
   | none=>rw[hl]at h;cases h
   | some zs=>
    rcases av.1 hx with rfl|hx
    ·exact⟨y,ha⟩
    ·exact L8 hl x hx
section
variable{H:Type}{enc:TypeId×Value→H}{P:Program}{w:World}{sp:Nat→Bool}{held:Bool}
theorem OH{f:TypeId→Option (List CK)}{g:TypeId→List Value→Prop}(hf:∀ t ks cs,f t=some ks→g t cs→F2 (sF w) ks cs){cs:List Value}:∀ {fs:List Field} {o:Nat} {ks:List CK},Gx f P fs o=some ks →
  (∀ x∈fs,g x.type ((cs.drop x.offset).take (P.cellsOf x.type)))→o+ks.length≤cs.length→F2 (sF w) ks ((cs.drop o).take ks.length)
 | [],o,ks,h,_,_=>by cases h;simp;exact .nil
 | x::r,o,ks,h,hg,hl=>by
  simp only[Gx,ae]at h
  obtain⟨k1,h1,h⟩:=h
  split at h
  ·rename_i hc
   obtain⟨k2,h2,rfl⟩:=aj.1 h
   rw[az]at hl
   have a1:=hf _ _ _ h1 (hg x (by simp))
   rw[hc.1,← hc.2]at a1
   have a2:=OH hf h2 (fun y hy=>hg y (by simp[hy])) (by omega)
   have e:(cs.drop o).take (k1++k2).length=(cs.drop o).take k1.length++(cs.drop (o+k1.length)).take k2.length:=by
    rw[az,List.take_add,bT]
   rw[e]
   exact a1.app a2
  ·cases h
def Ud{ks:List CK}{cs:List Value}(n:Nat)(h:∀ i,i<n→F2 (sF w) ks ((cs.drop (i*ks.length)).take ks.length))(hl:n*ks.length≤cs.length):F2 (sF w) (List.replicate n ks).flatten (cs.take (n*ks.length)):=by
 induction n with
 | zero=>simp;exact .nil
 | succ n ih=>
  have h1:=ih (fun i hi=>h i (by omega)) (by rw[bR]at hl;omega)
  have h2:=h n (by omega)
  rw[List.replicate_succ',dK,bR,List.take_add]
  simp only[aU,dA,aA]
  exact h1.app h2
theorem Gz:∀ (d:Nat) (t:TypeId) (ks:List CK),vo P d t=some ks→∀ (fuel:Nat) (cs:List Value) (x:DataW H×List MemPlace),DataW.trod enc P w 0 sp held fuel t cs=some x→F2 (sF w) ks cs
 | 0,_,_,h,_,_,_,_=>by cases h
 | d+1,t,ks,h,fuel,cs,x,hx=>by
  unfold vo at h
  cases fuel with
  | zero=>cases hx
  | succ fuel=>
  have ih:=fun t ks h cs=>Gz d t ks h fuel cs
  split at h
  ·rename_i k hu
   cases h
   unfold DataW.trod at hx
   simp only[hu]at hx
   match cs,hx with
   | [.int k' n],hx=>
    by_cases hk:k'=k∧(Lit.int k n).wf=true
    ·refine⟨rfl,fun i a b ha hb=>?_⟩
     cases i with
     | zero=>
      simp at ha hb;subst ha;subst hb
      exact⟨n,by rw[hk.1],hk.2⟩
     | succ i=>simp at ha
    ·simp[hk]at hx
  ·rename_i e hu
   simp only[ae]at h
   obtain⟨k1,h1,l,h2,h⟩:=h
   split at h
   ·rename_i hlen
    cases h
    have hc:sF w (.sl l) (cs.headD undef)∧cs.length=1:=by
     rcases Go.Deep.open_slice hu hx with⟨rfl,_⟩|⟨a,len,cap,m,n,D,Pl,rfl,_,hle,ju,hm,_,ph⟩
     ·exact⟨.inl rfl,rfl⟩
     ·refine⟨.inr ⟨a,len,cap,rfl,hle,ju,fun i hi=>?_⟩,rfl⟩
      obtain⟨ws,vW,nh⟩:=ph i (by rw[hm];split<;>omega)
      rw[hlen]
      exact⟨ws,vW,OI h2 (Gz d e k1 h1 n ws _ nh)⟩
    match cs,hc with
    | [v],hc=>
     refine⟨rfl,fun i a b ha hb=>?_⟩
     cases i with
     | zero=>simp at ha hb;subst ha;subst hb;exact hc.1
     | succ i=>simp at ha
   ·cases h
  ·rename_i n e hu
   simp only[ae]at h
   obtain⟨k1,h1,h⟩:=h
   split at h
   ·rename_i hlen
    cases h
    unfold DataW.trod at hx
    simp only[hu]at hx
    split at hx
    ·rename_i gj
     obtain⟨ys,po,_⟩:=aj.1 hx
     have jO:=L8 po
     have:=Ud (w:=w) (ks:=k1) (cs:=cs) n (fun i hi=>by
      obtain⟨y,hy⟩:=jO i (by simpa using hi)
      rw[← hlen.1]at hy
      exact ih e k1 h1 _ y hy) (by rw[gj,hlen.2];exact Nat.le_refl _)
     rwa [ai (by rw[gj,hlen.2];exact Nat.le_refl _)]at this
    ·cases hx
   ·cases h
  ·rename_i fs hu
   simp only[ae]at h
   obtain⟨k1,h1,h⟩:=h
   split at h
   ·rename_i hlen
    cases h
    unfold DataW.trod at hx
    simp only[hu]at hx
    split at hx
    ·rename_i gj
     obtain⟨ys,po,_⟩:=aj.1 hx
     have jO:=L8 po
     have:=OH (P:=P) (w:=w) (f:=vo P d) (g:=fun t cs=>∃ x,DataW.trod enc P w 0 sp held fuel t cs=some x) (fun t ks cs h ⟨x,hx⟩=>ih t ks h cs x hx) (cs:=cs) h1 (fun x hx=>jO x hx) (by omega)
     rwa [dj,ai (by omega)]at this
    ·cases hx
   ·cases h
  ·cases h
end
def tJ:CK→D→Prop
 | .int k,d=>∃ n,d = .val (.int k n)∧(Lit.int k n).wf=true
 | .sl ks,d=>∃ (len:Nat) (W:Nat→List Value),d = .sl ks.length ((List.range len).map fun i=>(W i).map D.val)∧∀ i,i<len→F2 u7 ks (W i)
def Gu{w:World}{a:Addr}{v:Value}(h:w.cell? a=some v):a.block<w.heap.size:=by
 unfold World.cell? at h
 cases hb:w.heap[a.block]? with
 | none=>rw[hb]at h;cases h
 | some o=>exact(aK.1 hb).1
def JA{w:World}{a:Addr}{v:Value}(h:w.cell? a=some v):a.spot=none:=by
 unfold World.cell? at h
 split at h
 ·split at h
  ·cases h
  ·rename_i hs;simpa using hs
 ·cases h
theorem L9{α β:Type}{f:α→Option β}:∀ {l:List α} {ys:List β},l.mapM f=some ys→ys.length=l.length∧∀ (i:Nat) (x:α),l[i]? = some x→f x=ys[i]?
 | [],ys,h=>by cases h;exact⟨rfl,fun i x h=>by simp at h⟩
 | a::l,ys,h=>by
  rw[dM]at h
  cases ha:f a with
  | none=>rw[ha]at h;cases h
  | some y=>
   rw[ha]at h
   cases hl:l.mapM f with
   | none=>rw[hl]at h;cases h
   | some zs=>
    rw[hl]at h
    cases h
    obtain⟨h1,h2⟩:=L9 hl
    refine⟨by simp[h1],fun i x hx=>?_⟩
    cases i with
    | zero=>simp at hx;subst hx;simp[ha]
    | succ i=>simpa using h2 i x (by simpa using hx)
def JB{w:World}{a:Addr}{n:Nat}{ws:List Value}(h:w.cells? 0 a n=some ws):ws.length=n∧∀ j,j<n→w.cell? (a.add j)=ws[j]? := by
 unfold World.cells? at h
 rw[if_pos (Nat.zero_le _)]at h
 obtain⟨h1,h2⟩:=L9 h
 exact⟨by simpa using h1,fun j hj=>h2 j j (by simp[hj])⟩
def Ol{a:Addr}(hs:a.spot=none)(n:Nat):a.add n=⟨a.block,a.off+n,none⟩:=by
 unfold Addr.add
 split
 ·rename_i h;subst h;cases a;simp_all
 ·simp
def Y7{k:IntKind}{v:Value}(h:u7 k v):v.oneCell'=true:=by
 obtain⟨n,rfl,_⟩:=h;rfl
def afw{c:Ctx}{w:World}(hF:∀ b,b<w.heap.size→c.F b){ck:CK}{v:Value}(h:sF w ck v):∃ d,tJ ck d∧eW c w v d∧v.oneCell'=true:=by
 cases ck with
 | int k=>
  obtain⟨n,rfl,h⟩:=h
  exact⟨_,⟨n,rfl,h⟩,.val _,rfl⟩
 | sl ks=>
  rcases h with rfl|⟨a,len,cap,rfl,hle,ju,ph⟩
  ·refine⟨_,⟨0,fun _=>[],rfl,fun i hi=>by omega⟩,?_,rfl⟩
   exact .sl none 0 0 _ _ (fun _ _=>undef) rfl (Nat.le_refl _) (by decide) (fun e he=>by simp at he) (fun _=>rfl) (fun i e j d he=>by simp at he) (fun i e j d he=>by simp at he)
  ·have hex:∃ W:Nat→List Value,∀ i,i<len→w.cells? 0 (a.add (i*ks.length)) ks.length=some (W i)∧F2 u7 ks (W i):=
    ⟨fun i=>if h:i<len then Classical.choose (ph i h)else [],fun i hi=>by simp only[hi,dite_true];exact cF (ph i hi)⟩
   obtain⟨W,hW⟩:=hex
   refine⟨_,⟨len,W,rfl,fun i hi=>(hW i hi).2⟩,?_,rfl⟩
   have key:∀ (i:Nat) (e:List D) (j:Nat) (d:D),((List.range len).map fun i=>(W i).map D.val)[i]? = some e→e[j]? = some d→i<len∧∃ v,(W i)[j]? = some v∧d = .val v∧v.oneCell'=true∧w.cell? ((a.add (i*ks.length)).add j)=some v:=by
    intro i e j d he hd
    have hi:i<len:=by have:=(af.1 he).1;simpa using this
    rw[aq,bX hi,aH,ak]at he
    subst he
    rw[aq,aj]at hd
    obtain⟨v,hv,rfl⟩:=hd
    obtain⟨h1,h2⟩:=hW i hi
    obtain⟨h3,h4⟩:=JB h1
    have hj:j<ks.length:=by have:=(af.1 hv).1;omega
    exact⟨hi,v,hv,rfl,Y7 (h2.2 j _ v (List.getElem?_eq_getElem hj) hv),by rw[h4 j hj,hv]⟩
   refine .sl (some a) len cap ks.length _ (fun i j=>(W i).getD j undef) (by simp) hle ju (fun e he=>?_) (fun h=>by cases h) (fun i e j d he hd=>?_) (fun i e j d he hd=>?_)
   ·obtain⟨i,hi,rfl⟩:=aw.1 he
    rw[List.length_map]
    exact(hW i (by simpa using hi)).2.1.symm
   ·obtain⟨hi,v,hv,rfl,h1,hc⟩:=key i e j d he hd
    have rm:a.spot=none:=by
     by_cases hz:i*ks.length=0
     ·by_cases hj:j=0
      ·rw[hz,hj]at hc;exact JA (a:=a) hc
      ·have h0:=(hW i hi).1
       obtain⟨h3,h4⟩:=JB h0
       have mP:j<ks.length:=by have:=(af.1 hv).1;omega
       have h5:=h4 0 (by omega)
       rw[List.getElem?_eq_getElem (show 0<(W i).length by omega),hz]at h5
       exact JA (a:=a) h5
     ·have h0:=(hW 0 (by omega)).1
      obtain⟨h3,h4⟩:=JB h0
      have hk:0<ks.length:=Nat.pos_of_ne_zero fun e=>hz (by rw[e];simp)
      have h5:=h4 0 hk
      rw[List.getElem?_eq_getElem (show 0<(W 0).length by omega),cu]at h5
      exact JA (a:=a) h5
    rw[Ol rm,Ol rfl]at hc
    refine⟨a.block,a.off,by cases a;simp_all,hF _ (by have:=Gu hc;exact this),?_,?_⟩
    ·rw[List.getD_eq_getElem?_getD,hv,aL,← hc,a7]
    ·rw[List.getD_eq_getElem?_getD,hv];exact h1
   ·obtain⟨hi,v,hv,rfl,h1,hc⟩:=key i e j d he hd
    rw[List.getD_eq_getElem?_getD,hv]
    exact .val _
theorem MD{c:Ctx}{w:World}(hF:∀ b,b<w.heap.size→c.F b):∀ {ks:List CK} {vs:List Value},F2 (sF w) ks vs→∃ ds,F2 tJ ks ds∧Cells c w vs ds
 | [],vs,h=>by
  have:vs = []:=aB.1 h.1.symm
  subst this
  exact⟨[],.nil,rfl,fun v hv=>by simp at hv,fun i v d hv=>by simp at hv⟩
 | k::ks,[],h=>by have:=h.1;simp at this
 | k::ks,v::vs,h=>by
  obtain⟨ds,h1,h2⟩:=MD hF (ks:=ks) (vs:=vs) ⟨by have:=h.1;simpa using this,fun i a b ha hb=>h.2 (i+1) a b (by simpa using ha) (by simpa using hb)⟩
  obtain⟨d,h3,h4,h5⟩:=afw (c:=c) hF (h.2 0 k v rfl rfl)
  refine⟨d::ds,⟨by simp[h1.1],fun i a b ha hb=>?_⟩,by simp[h2.len],fun x hx=>?_,fun i x y hx hy=>?_⟩
  ·cases i with
   | zero=>simp at ha hb;subst ha;subst hb;exact h3
   | succ i=>exact h1.2 i a b (by simpa using ha) (by simpa using hb)
  ·rcases av.1 hx with rfl|hx
   ·exact h5
   ·exact h2.one x hx
  ·cases i with
   | zero=>simp at hx hy;subst hx;subst hy;exact h4
   | succ i=>exact h2.rep i x y (by simpa using hx) (by simpa using hy)
theorem F2.cons{α β:Type}{R:α→β→Prop}{a:α}{xs:List α}{bs:List β}(h:F2 R (a::xs) bs):∃ b vg,bs=b::vg∧R a b∧F2 R xs vg:=by
 cases bs with
 | nil=>have:=h.1;simp at this
 | cons b vg=>exact⟨b,vg,rfl,h.2 0 a b rfl rfl,by have:=h.1;simpa using this,fun i x y hx hy=>h.2 (i+1) x y (by simpa using hx) (by simpa using hy)⟩
def F2.done{α β:Type}{R:α→β→Prop}{bs:List β}(h:F2 R [] bs):bs = []:=aB.1 h.1.symm
end Go.AL
namespace Go.Proofs.YtmehofoficaelaaGreatDoor
open Go Go.AL
set_option maxRecDepth 10000
def Dx{d:D}(h:tJ (.int .u8) d):∃ n,d = .val (.int .u8 n)∧lk n:=by
 obtain⟨n,rfl,h⟩:=h
 simp only[Lit.wf,ah,decide_eq_true_eq]at h
 have h1:IntKind.u8.min=0:=by decide
 have h2:IntKind.u8.max=255:=by decide
 refine⟨n,rfl,?_,?_⟩<;>omega
def HX{v:Value}(h:u7 .u8 v):∃ n,v = .int .u8 n∧lk n:=by
 obtain⟨n,rfl,h⟩:=h
 obtain⟨m,h1,h2⟩:=Dx ⟨n,rfl,h⟩
 simp only[D.val.injEq,Value.int.injEq]at h1
 obtain⟨_,rfl⟩:=h1
 exact⟨n,rfl,h2⟩
def Jx{d:D}(h:tJ (.sl [.u8]) d):∃ l:List Int,d=dU l∧∀ n∈l,lk n:=by
 obtain⟨len,W,rfl,h⟩:=h
 have:∀ i,i<len→∃ n,W i = [.int .u8 n]∧lk n:=fun i hi=>by
  obtain⟨b,bs,h1,h2,h3⟩:=(h i hi).cons
  obtain⟨n,rfl,h4⟩:=HX h2
  exact⟨n,by rw[h1,h3.done],h4⟩
 have hex:∃ f:Nat→Int,∀ i,i<len→W i = [.int .u8 (f i)]∧lk (f i):=
  ⟨fun i=>if h:i<len then Classical.choose (this i h)else 0,fun i hi=>by simp only[hi,dite_true];exact cF (this i hi)⟩
 obtain⟨f,hf⟩:=hex
 refine⟨(List.range len).map f,?_,fun n hn=>?_⟩
 ·unfold dU
  rw[cv]
  congr 1
  refine au fun i hi=>?_
  rw[(hf i (by simpa using hi)).1]
  simp
 ·obtain⟨i,hi,rfl⟩:=aw.1 hn
  exact(hf i (by simpa using hi)).2
def agG{d:D}(h:tJ (.sl [.u8,.u8,.u8]) d):∃ l:List (Int×Int×Int),d = .sl 3 (l.map fT)∧∀ x∈l,lk x.1∧lk x.2.1∧lk x.2.2:=by
 obtain⟨len,W,rfl,h⟩:=h
 have:∀ i,i<len→∃ x:Int×Int×Int,W i = [.int .u8 x.1,.int .u8 x.2.1,.int .u8 x.2.2]∧lk x.1∧lk x.2.1∧lk x.2.2:=fun i hi=>by
  obtain⟨b,bs,h1,h2,h3⟩:=(h i hi).cons
  obtain⟨b',vg,rfl,Kj,W0⟩:=h3.cons
  obtain⟨b'',aj2,rfl,WZ,W1⟩:=W0.cons
  obtain⟨n,rfl,h4⟩:=HX h2
  obtain⟨n',rfl,W2⟩:=HX Kj
  obtain⟨n'',rfl,W3⟩:=HX WZ
  exact⟨(n,n',n''),by rw[h1,W1.done],h4,W2,W3⟩
 have hex:∃ f:Nat→Int×Int×Int,∀ i,i<len→W i = [.int .u8 (f i).1,.int .u8 (f i).2.1,.int .u8 (f i).2.2]∧lk (f i).1∧lk (f i).2.1∧lk (f i).2.2:=
  ⟨fun i=>if h:i<len then Classical.choose (this i h)else(0,0,0),fun i hi=>by simp only[hi,dite_true];exact cF (this i hi)⟩
 obtain⟨f,hf⟩:=hex
 refine⟨(List.range len).map f,?_,fun n hn=>?_⟩
 ·rw[cv]
  congr 1
  refine au fun i hi=>?_
  rw[(hf i (by simpa using hi)).1]
  simp
 ·obtain⟨i,hi,rfl⟩:=aw.1 hn
  exact(hf i (by simpa using hi)).2
theorem M9:∀ {n:Nat} {ks:List CK} {ds:List D},F2 tJ (List.replicate n (.int .u8)++ks) ds→∃ (l:List Int) (r:List D),l.length=n∧(∀ m∈l,lk m)∧ds=l.map (fun n=>.val (.int .u8 n))++r∧F2 tJ ks r
 | 0,ks,ds,h=>⟨[],ds,rfl,by simp,rfl,by simpa using h⟩
 | n+1,ks,ds,h=>by
  rw[bw,cL]at h
  obtain⟨d,r,rfl,h1,h2⟩:=h.cons
  obtain⟨m,rfl,hm⟩:=Dx h1
  obtain⟨l,r',h3,h4,rfl,h5⟩:=M9 h2
  exact⟨m::l,r',by simp[h3],by simpa using ⟨hm,h4⟩,rfl,h5⟩
def UQ(l:List Int):cl fU l=l.map fun n=>.val (.int .u8 n):=by
 unfold cl
 induction l with
 | nil=>rfl
 | cons a l ih=>simp[ih]
def Uo{ds:List D}(h:F2 tJ ([.int .u8,.int .u8,.int .u8,.sl [.u8],.sl [.u8],.sl [.u8,.u8,.u8]]++List.replicate 24 (.int .u8) ++ [.sl [.u8]]) ds):∃ x:oP,x.cells=ds∧DF x:=by
 rw[aZ]at h
 simp only[cL,bO]at h
 obtain⟨d0,r0,rfl,h0,g0⟩:=h.cons
 obtain⟨d1,r1,rfl,h1,g1⟩:=g0.cons
 obtain⟨d2,r2,rfl,h2,g2⟩:=g1.cons
 obtain⟨d3,r3,rfl,h3,g3⟩:=g2.cons
 obtain⟨d4,r4,rfl,h4,g4⟩:=g3.cons
 obtain⟨d5,r5,rfl,h5,g5⟩:=g4.cons
 obtain⟨w,rfl,w'⟩:=Dx h0
 obtain⟨hh,rfl,XQ⟩:=Dx h1
 obtain⟨c,rfl,c'⟩:=Dx h2
 obtain⟨k0,rfl,Zy⟩:=Jx h3
 obtain⟨k1,rfl,Zz⟩:=Jx h4
 obtain⟨cs,rfl,mm⟩:=agG h5
 obtain⟨l,r,hl,hb,rfl,g6⟩:=M9 (n:=24) (ks:=[.sl [.u8]]) g5
 obtain⟨d6,r6,rfl,h6,g7⟩:=g6.cons
 obtain⟨p,rfl,p'⟩:=Jx h6
 obtain rfl:=g7.done
 match l,hl,hb with
 | f0::f1::f2::f3::f4::f5::l,hl,hb=>
  simp only[aO,Nat.reduceEqDiff]at hl
  simp only[av,forall_eq_or_imp]at hb
  obtain⟨b0,b1,b2,b3,b4,b5,hb⟩:=hb
  refine⟨⟨⟨w,hh,c,k0,k1,cs,f0,f1,f2,f3,f4,f5⟩,l,p⟩,?_,⟨⟨w',XQ,c',Zy,Zz,mm,b0,b1,b2,b3,b4,b5⟩,by simpa using hl,hb,p'⟩⟩
  simp[oP.cells,Raw.cells,UQ]
