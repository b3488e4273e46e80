/- Part 6 of DisputeWorkers. -/
import Derived.Test.YtmehofoficaelaaGreatDoorW05
import Derived.Shelf.SlSortCmp.NoneTotal
set_option linter.all false
namespace Go.AL
open Go
abbrev room(k:Nat):U:=List.replicate k .lT
section
variable{f:gP}{H:U}{r:Nat}
theorem No(v:Nat)(o:Ob)(a:o≠.lT):(H++room r)[v]? = some o↔H[v]? = some o:=by grind
theorem Tu(v:Nat):rowsOf (H++room r) v=rowsOf H v:=by
 unfold rowsOf
 cases h:H[v]? with
 | none=>
  cases a:(H++room r)[v]? with
  | none=>rfl
  | some o=>
   cases o<;>first|rfl|skip
   rw[No v _ (by simp)]at a;rw[h]at a;cases a
 | some o=>
  have:(H++room r)[v]? = some o:=by grind
  rw[this]
theorem AF(v g:Nat):rowAt (H++room r) v g=rowAt H v g:=by rw[AG,AG,Tu]
theorem SJ(v:Nat):lM (H++room r) v=lM H v:=by
 unfold lM
 cases h:H[v]? with
 | none=>
  cases a:(H++room r)[v]? with
  | none=>rfl
  | some o=>
   cases o<;>first|rfl|skip
   rw[No v _ (by simp)]at a;rw[h]at a;cases a
 | some o=>
  have:(H++room r)[v]? = some o:=by grind
  rw[this]
theorem TN(sz:Nat)(d:D):kS sz (H++room r) d=kS sz H d:=by
 cases d<;>first|rfl|skip
 simp only[kS,AF]
theorem abO(n:Nat)(op:iL):gN f (H++room r) n op=gN f H n op:=by
 cases op<;>simp only[gN]<;>first|rfl|skip
 case ld1=>simp only[xm,AF]
 case ldN=>simp only[wg,AF]
 case st1=>simp only[CM,AF]
 case stN=>simp only[CP,AF]
 case lookup=>simp only[Cb,SJ]
 case mapUpd=>simp only[Ar,SJ]
 case len=>simp only[mX,SJ]
 case b2s=>simp only[Dn,TN]
 case app=>simp only[sW,TN,AF]
 case copy=>simp only[zy,TN,AF]
 case slcArr=>simp only[AM,AF]
theorem IH(k:Nat)(d:D):iC (H++room r) k d=iC H k d/\gq (λ_=>none) (H++room r) k d=gq (λ_=>none) H k d:=
 IG (H1:=H) (H2:=H++room r) k d λv _=>(Tu v).symm
theorem Nk(op:iL):gT f (H++room r) op=gT f H op:=by
 have key:∀args:List D,args.map (iC (H++room r) 40)=args.map (iC H 40):=λargs=>aw λd _=>(IH 40 d).1;cases op<;>first|rfl|skip
 case call g args=>simp only[gT,key]
 case callN g args=>simp only[gT,key]
 case callv g args=>simp only[gT,key]
 case len k x=>cases k<;>rfl
theorem aaG{v g:Nat}{x:TypeId×List D}(h:rowAt H v g=some x):v<H.length:=(ae.1 (IL h)).1
theorem ahw{v:Nat}{x:KK×List (Value×D)}(h:lM H v=some x):v<H.length:=(ae.1 (ue h)).1
def Safe(H:U):Dl->Prop
 | .no=>True
 | .cells v o xs=>∃t g cs,H[v]? = some (.row t g cs)/\o+xs.length<=cs.length
 | .obj v _=>v<H.length
 | .new _=>True
theorem abP{op:iL}{n:Nat}{d:D}{δ:Dl}(h:gN f H n op=some (d,δ)):Safe H δ:=by
 have hl:∀ {o:Option D},lift o=some (d,δ)->Safe H δ:=λh=>by rw[(mr h).2];trivial
 cases op<;>simp only[gN]at h<;>first|exact hl h|(cases h;done)|skip
 case box=>unfold rK at h;split at h<;>cases h;trivial
 case alloc=>cases h;trivial
 case mkmap=>cases h;trivial
 case buildSl=>
  unfold zn at h;split at h
  .split at h<;>cases h;trivial
  .cases h
 case mksl=>
  unfold EC at h;split at h
  .split at h<;>cases h;trivial
  .cases h
 case st1=>
  unfold CM at h;split at h
  .split at h
   .rename_i v g o _ t cs a;split at h
    .rename_i c;cases h;exact⟨_,_,_,IL a,by simp;omega⟩
    .cases h
   .cases h
  .cases h
 case stN=>
  unfold CP at h;split at h
  .split at h
   .rename_i v g o xs _ _ t cs a;split at h
    .rename_i c;cases h;exact⟨_,_,_,IL a,by simp;omega⟩
    .cases h
   .cases h
  .cases h
 case mapUpd=>
  unfold Ar at h;split at h
  .split at h
   .rename_i b;split at h
    .cases h;exact ahw b
    .cases h
   .cases h
  .cases h
 case app=>
  unfold sW at h;split at h
  .split at h
   .split at h
    .rename_i a;split at h
     .cases h;exact aaG a
     .cases h
    .cases h
   .split at h
    .cases h;trivial
    .cases h
   .split at h
    .cases h;trivial
    .split at h
     .cases h;trivial
     .cases h
   .cases h
  .cases h
 case copy=>
  unfold zy at h;split at h
  .split at h
   .rename_i a;split at h
    .cases h;exact aaG a
    .cases h
   .cases h
  .cases h;trivial
  .cases h
theorem PG{δ:Dl}(hs:Safe H δ)(k:Nat)(c:(δ.app H (Al.last H)).length<=k) :
  lG H.length δ (H++room (k-H.length))=δ.app H (Al.last H)++room (k-(δ.app H (Al.last H)).length)/\Fits H.length δ (H++room (k-H.length)):=by
 cases δ with
 | no=>exact⟨rfl,trivial⟩
 | cells v o xs=>
  obtain⟨t,g,cs,h1,d⟩:=hs;have b:=(ae.1 h1).1;have a:(H++room (k-H.length))[v]? = some (.row t g cs):=by rw[ah b];exact h1
  refine⟨?_,t,g,cs,a,d⟩;simp only[lG,Dl.app,a,h1,ao];rw[aM _ _ b]
 | obj v ob=>
  refine⟨?_,trivial⟩;simp only[lG,Dl.app,ao];rw[aM _ _ hs]
 | new ob=>
  simp only[Dl.app,Al.last,ak,aJ,cW,aQ]at c ⊢;have e:k-H.length=(k-(H.length+1))+1:=by omega
  refine⟨?_,?_⟩
  .simp only[lG,Dl.app,Al.lT];rw[e,room,bp,dy _ _ (Nat.le_refl _)];simp[aL]
  .show(H++room (k-H.length))[H.length]? = some .lT;rw[e,ai (Nat.le_refl _)];simp[bp]
end
section
variable{G:GT}{c:Ctx}{w:World}{H:U}
theorem Oh{r v:Nat}{L:Loc}:lY c (H++room r) v L↔lY c H v L:=by
 constructor
 .rintro⟨o,b,a,d⟩;rw[No v o (by rintro rfl;cases a)]at b;exact⟨o,b,a,d⟩
 .rintro⟨o,b,a,d⟩;exact⟨o,(No v o (by rintro rfl;cases a)).2 b,a,d⟩
theorem S8{r b:Nat}:mh c (H++room r) b↔mh c H b:=by
 constructor
 .rintro⟨v,L,hl,r⟩;exact⟨v,L,Oh.1 hl,r⟩
 .rintro⟨v,L,hl,r⟩;exact⟨v,L,Oh.2 hl,r⟩
theorem aaD(h:gE G c H w)(r:Nat):gE G c (H++room r) w where
 inj v v' L L' h1 h2:=h.inj v v' L L' (Oh.1 h1) (Oh.1 h2)
 lt b hb:=h.lt b (S8.1 hb)
 nF b hb:=h.nF b (S8.1 hb)
 kO:=h.kO
 out v k a:=h.out v k (by simp at a;omega)
 mD v o k ho hk:=by
  rcases bH v H.length with a|a
  .rw[ah a]at ho;exact h.mD v o k ho hk
  .exact h.out v k a
 ob v o ho:=by
  rcases bH v H.length with a|a
  .rw[ah a]at ho;exact h.ob v o ho
  .rw[ai a,List.getElem?_replicate]at ho;split at ho
   .cases ho;simp only[ia];exact h.out v _ a
   .cases ho
 gl:=h.gl
 rt:=h.rt
theorem aaE(r n:Nat):Step n c H w c (H++room r) w:=
 ⟨⟨rfl,Nat.le_refl _⟩,rfl,rfl,Nat.le_refl _,rfl,λ_ h=>h,λ_ h=>.inl h,λ_ _ _=>rfl,λ_ _ _ _ h=>h,λ_ h=>.inr (S8.1 h)⟩
end
end Go.AL
namespace Go.AL
open Go Go.Proofs Go.Shelf Go.RowKit Go.Lib Go.Sort
structure xO(P:Program)(f:FuncId)(sz:Nat):Prop where
 pos:0<sz
 full:∀(α:Type) [Inhabited α] (enc:α->List Value) (_:∀x,(enc x).length=sz) (_:∀x,∀v∈enc x,v.oneCell'=true) (cf:α->α->Int) (_:SWO (ltOf cf)) (g lP off cap:Nat) (d:Array α) (w:World)
  (_:∀args w,(callFunc g args).run P w = .ok (.enter g args) w) (_:CmpLays P g #[] enc sz cf lP off d.size w) (_:HoldsK enc sz w lP off d) (_:lP<w.heap.size) (_:d.size<4611686018427387904),
  Calls P f #[.slice (some ⟨lP,off,none⟩) d.size cap,.func (.func g) #[] #[]] w λe w'=>e = .returned (.tuple #[])/\∃d' n os,PermIn 0 d.size d d'/\SortedIn (ltOf cf) 0 d.size d'/\w'=sortWorldK enc sz w lP off n d' os
 none:∀(p:Option Addr) (cap:Nat) (fv:Value) (w:World),Calls P f #[.slice p 0 cap,fv] w λe w'=>e = .returned (.tuple #[])/\w'=w
theorem xO.of{P:Program}{ρ:Ren}(L:SlLaysF0.n6 P ρ){k:Nat}(b:0<k)(c:∀w,(isAgg (ρ.t 24)).run P w = .ok true w)(a:∀w,(Go.sizeOf (ρ.t 24)).run P w = .ok k w):xO P (ρ.f 6) k where
 pos:=b
 full α _ enc h1 h2 cf hO g lP off cap d w eg hc hH hb hs:=AnyQ.slices_SortFunc L k c a enc h1 h2 cf hO g #[] lP off cap d w eg hc hH hb hs
 none:=AnyF.slices_SortFunc_none L
section
variable{P:Program}{G:GT}{c:Ctx}{H:U}{w:World}{α:Type}
structure El(c:Ctx)(w:World)(fc:α->List D)(l:List α) where
 vs:List Value
 a:α
 mem:a∈l
 cells:Cells (c.data c.F) w vs (fc a)
theorem aaW{a:Type}[Inhabited a](enc:a->List Value)(k lP off m:Nat)(e:Array a)(os:Array Obj){b:Nat}(d:b<w.heap.size)(c:b≠lP):(sortWorldK enc k w lP off m e os).heap[b]? = w.heap[b]? := by simp only[sortWorldK,grow,putRowK,putRow,mapBlock,Go.Sort.ahead];rw[cE (by simpa using d),bg,if_neg (cu c)]
theorem ac9(h:gE G c H w){W:World}(hs:w.heap.size<=W.heap.size)(d:∀b,c.F b->W.heap[b]? = w.heap[b]?):gE G (c.data c.F) [] W where
 inj v v' L L' h1:=by obtain⟨o,a,_⟩:=h1;simp at a
 lt b hb:=by obtain⟨v,L,⟨o,a,_⟩,_⟩:=hb;simp at a
 nF b hb:=by obtain⟨v,L,⟨o,a,_⟩,_⟩:=hb;simp at a
 kO b hb:=aO (h.kO b hb) hs
 out _ _ _:=rfl
 mD _ _ _ _ _:=rfl
 ob v o a:=by simp at a
 gl g cs hg:=by obtain⟨h1,f⟩:=(MR h).gl g cs hg;exact⟨h1,gh.carry (c:=c.data c.F) (c':=c.data c.F) (λ_ _ _ h=>h) (λ_ h=>h) (λb o e=>F8 (d b e)) f⟩
 rt:=h.rt
theorem aoL{W w':World}(h:kj W w'):∃q a,w'=grow (W.drewN q) a:=by
 obtain⟨⟨h1,n⟩,g,f,m,e⟩:=h;refine⟨w'.drawn-W.drawn,w'.heap.extract W.heap.size w'.heap.size,?_⟩
 cases w' with
 | mk l tp dr o k=>
  cases W with
  | mk b c j o' d=>
   simp only at *;subst h1 g f;simp only[grow,World.drewN];congr 1
   .apply Array.ext_getElem?;intro i;rcases bH i b.size with hi|hi
    .rw[cE hi,e i hi]
    .rw[Array.getElem?_append_right hi,Array.getElem?_extract];split
     .congr 1;omega
     .exact dZ (by omega)
   .omega
theorem jC.two{c:Ctx}{w:World}{vs:List Value}{d e:D}(h:jC c w vs [d,e]):∃u v,vs = [u,v]/\gh c w u d/\gh c w v e:=by
 cases h with
 | cons h1 h=>cases h with
  | cons a h=>cases h;exact⟨_,_,rfl,h1,a⟩
theorem aoh{f g:FuncId}{sz:Nat}(hS:xO P f sz){x:D}{R:D->U->Prop}(k:R (.tup []) H):vc P G f [.gg,x] H R:=by intro c w vs gf b;obtain⟨u,v,rfl,h1,h⟩:=jC.two b;cases h1;refine(hS.none none 0 v w).mono ?_;rintro e w' ⟨rfl,rfl⟩;exact⟨_,c,_,H,rfl,k,Nat.le_refl _,gf,.tup [] [] rfl (λi v d a=>by simp at a),Step.refl _ _ _ _⟩
theorem aoi{f g:FuncId}{sz:Nat}(hS:xO P f sz)(hg:s5 P g=true)(fc:α->List D)(l:List α)(hl:∀a∈l,(fc a).length=sz)(gI:∀a∈l,gF (fc a)=true)(h0:0<l.length)(wZ:l.length<4611686018427387904)
  (q:α->α->Int) (Ew:∀x∈l,¬q x x<0) (tr:∀x∈l,∀y∈l,∀z∈l,q x y<0->q y z<0->q x z<0) (nt:∀x∈l,∀y∈l,∀z∈l,¬q x y<0->¬q y z<0->¬q x z<0)
  (hc:∀x∈l,∀y∈l,vc P G g [.agg (fc x),.agg (fc y)] [] λd _=>d = .i (q x y)) {v gen:Nat} {t:TypeId} (Q:H[v]? = some (.row t gen (l.map fc).flatten)) {R:D->U->Prop}
  (k:∀l':List α,l'.Perm l->l'.Pairwise (λx y=>¬q y x<0)->R (.tup []) (H.set v (.row t gen (l'.map fc).flatten))) :
  vc P G f [.fY v gen sz 0 l.length,.fn (.func g) [] []] H R:=by
 have O:=hS.pos;intro c w vs gf A;obtain⟨u,v1,rfl,h1,h2⟩:=jC.two A;clear A;have hn:l.length=l.length:=rfl;revert hn;generalize hN:l.length=N at h1;intro hn
 have oG:v1 = .func (.func g) #[] #[]:=by
  cases h2 with
  | fn _ fs cs df dc jL kd _ _=>
   have p:fs = []:=ay.1 jL;have I:cs = []:=ay.1 kd;subst p;subst I;rfl
 subst oG;clear h2
 cases h1 with
 | mw=>omega
 | fY _ _ _ _ _ cap L gp iu ka jb mG=>
 have X:=gf.ob v _ Q;simp only[Ob.gen]at X;rw[gp]at X;simp only[ia,iu]at X;obtain⟨arr,M,HJ,E,po⟩:=X
 have jQ:(l.map fc).flatten.length=N*sz:=by rw[Nh sz _ (by simpa using hl),List.length_map,hN]
 rw[jQ]at E;have xd:mh c H L.b:=⟨v,L,⟨_,Q,rfl,gp⟩,iu,rfl⟩;have S:=gf.lt _ xd
 have C:∀i,i<N->L.base+i*sz+sz<=arr.size:=λi hi=>by have:(i+1)*sz<=N*sz:=bz _ hi;rw[cA]at this;omega
 let mk:Fin l.length->El c w fc l:=λi=>{
  vs:=(arr.toList.drop (L.base+i.val*sz)).take sz
  a:=l[i.val]
  mem:=bT _
  cells:=by
   have hi:i.val<N:=by rw[<-hN];exact i.isLt
   have hm:=C _ hi;have z6:(fc l[i.val]).length=sz:=hl _ (bT _)
   have jz:∀r,r<sz->∃y d,((arr.toList.drop (L.base+i.val*sz)).take sz)[r]? = some y/\(fc l[i.val])[r]? = some d/\y.oneCell'=true/\gh c w y d:=λr A=>by
    have J:(l.map fc).flatten[i.val*sz+r]? = (fc l[i.val])[r]? := by rw[Ng sz O _ (by simpa using hl),show(i.val*sz+r) / sz=i.val from by rw[dQ,Nat.mul_add_div O,Nat.div_eq_of_lt A];rfl,show(i.val*sz+r) % sz=r from by rw[dQ,Nat.mul_add_mod,ff A]];simp
    have s:(fc l[i.val])[r]? = some (fc l[i.val])[r]:=List.getElem?_eq_getElem (by omega);obtain⟨y,tW,HM,a1⟩:=po (i.val*sz+r) _ (J.trans s);refine⟨y,_,?_,s,HM,a1⟩;rw[aF,if_pos A,aG,bF,<-tW];congr 1;omega
   have sB:((arr.toList.drop (L.base+i.val*sz)).take sz).length=sz:=by simp;omega
   refine⟨by rw[sB,z6],λy B=>?_,λr y d B J=>?_⟩
   .obtain⟨r,A⟩:=aC.1 B;have Z:r<sz:=by have:=(ae.1 A).1;omega
    obtain⟨y',d,p,_,e3,_⟩:=jz r Z;rw[A]at p;cases p;exact e3
   .have Z:r<sz:=by have:=(ae.1 B).1;omega
    obtain⟨y',d',p,I,_,e4⟩:=jz r Z;rw[B]at p;cases p;rw[J]at I;cases I
    exact gh.closed (c:=c) (c':=c.data c.F) (λb F=>F) e4 (xX (gI _ (bT _)) J) }
 haveI:Inhabited (El c w fc l):=⟨mk ⟨0,h0⟩⟩
 let enc:El c w fc l->List Value:=λe=>e.vs
 let d:Array (El c w fc l):=Array.ofFn mk
 have K:d.size=N:=by simp[d,hN]
 have iA:∀x:El c w fc l,(enc x).length=sz:=λx=>by rw[show enc x=x.vs from rfl,x.cells.len,hl _ x.mem]
 have Ht:∀x:El c w fc l,∀y∈enc x,y.oneCell'=true:=λx y B=>x.cells.one y B
 have a4:d.toList.map (λe=>e.a)=l:=by
  apply bI;intro i;simp only[d,au,bF,Array.getElem?_ofFn]
  by_cases hi:i<l.length
  .simp[hi,mk]
  .simp[hi]
 have hO:SWO (ltOf λx y:El c w fc l=>q x.a y.a):=by
  refine⟨λx=>?_,λx y z=>?_,λx y z=>?_⟩
  .simpa[ltOf]using Ew x.a x.mem
  .simpa[ltOf]using tr x.a x.mem y.a y.mem z.a z.mem
  .simpa[ltOf]using nt x.a x.mem y.a y.mem z.a z.mem
 have yg:∀j,w.cell? ⟨L.b,j,none⟩=arr[j]? := λj=>by simp[World.cell?,M]
 have hH:HoldsK enc sz w L.b (L.base+0*sz) d:=by
  intro j hj;have V:j<N*sz:=by simpa[K]using hj
  have hq:j / sz<N:=Nat.div_lt_of_lt_mul (by rw[dQ];exact V);have A:j % sz<sz:=Nat.mod_lt _ O;have hm:=C _ hq;have G4:j / sz*sz+j % sz=j:=by rw[dQ];exact Nat.div_add_mod j sz
  rw[get_flatK _ _ _ _ (by rw[K];exact V)];refine⟨?_,?_⟩
  .have p:d[j / sz]! = mk ⟨j / sz,by omega⟩:=by rw[getElem!_pos d (j / sz) (by omega)];simp[d]
   rw[yg,p];show _=some (id ((arr.toList.drop (L.base+j / sz*sz)).take sz)[j % sz]!);rw[getElem!_pos _ (j % sz) (by simp;omega),List.getElem_take,List.getElem_drop,Array.getElem_toList,cd (by omega)];simp only[id];congr 2;omega
  .simp[World.frozen?,M]
 have b0:CmpLays P g #[] enc sz (λx y:El c w fc l=>q x.a y.a) L.b (L.base+0*sz) d.size w:=by
  intro m os dk _ x y;have hW:∀b,c.F b->(sortWorldK enc sz w L.b (L.base+0*sz) m dk os).heap[b]? = w.heap[b]? := λb F=>aaW _ _ _ _ _ _ _ (gf.kO b F) λe=>gf.nF _ xd (e▸F);have sE:gE G (c.data c.F) [] (sortWorldK enc sz w L.b (L.base+0*sz) m dk os):=ac9 gf (size_sortWorldK_c _ _ _ _ _ _ _ _) hW
  have tT:∀x:El c w fc l,gh (c.data c.F) (sortWorldK enc sz w L.b (L.base+0*sz) m dk os) (.agg (enc x).toArray) (.agg (fc x.a)):=λx=>
   .agg _ _ x.cells.len x.cells.one λi y d B J=>gh.carry (c:=c.data c.F) (c':=c.data c.F) (λ_ _ _ h=>h) (λ_ h=>h) (λb o hF=>F8 (hW b hF)) (x.cells.rep i y d B J)
  have:=hc x.a x.mem y.a y.mem _ _ _ sE (.cons (tT x) (.cons (tT y) .nil));rw[show(#[Value.agg (enc x).toArray,Value.agg (enc y).toArray] ++ #[]:Array Value) = [Value.agg (enc x).toArray,Value.agg (enc y).toArray].toArray by simp];refine Calls.mono this ?_;rintro e w' ⟨u,c',d',H',he,rfl,_,_,hu,gw⟩;cases hu;exact⟨he,aoL (Bn gw)⟩
 have eg:∀args w,(callFunc g args).run P w = .ok (.enter g args) w:=O1 hg;have jD:=hS.full (El c w fc l) enc iA Ht _ hO g L.b (L.base+0*sz) cap d w eg b0 hH S (by omega);rw[K]at jD;refine jD.mono ?_;rintro e w' ⟨rfl,d',n,os,⟨sF,_,nE⟩,b',rfl⟩;have W:d'.size=N:=by rw[sF,K]
 have b1:(d'.toList.map λe=>e.a).Perm l:=by
  refine List.Perm.trans (List.Perm.map _ ?_) (List.Perm.of_eq a4);have p:(d'.extract 0 N).toList=d'.toList:=by rw[<-W];simp
  have I:(d.extract 0 N).toList=d.toList:=by rw[<-K];simp
  rw[p,I]at nE;exact nE
 have a2:(d'.toList.map λe=>e.a).Pairwise λx y=>¬q y x<0:=by
  rw[eZ,bJ];intro i j hi hj BR;have T:i<d'.size:=by simpa using hi
  have V:j<d'.size:=by simpa using hj
  have:=b' i j (Nat.zero_le _) BR (by omega);rw[getElem!_pos d' j V,getElem!_pos d' i T]at this;simpa[ltOf]using this
 have BU:((d'.toList.map λe=>e.a).map fc).flatten.length=N*sz:=by
  rw[Nh sz _ (λx s=>?_)]
  .simp[W]
  .simp only[ar]at s;obtain⟨a,⟨e,_,rfl⟩,rfl⟩:=s;exact hl _ e.mem
 have hF:(flatK enc sz d').size=N*sz:=by rw[size_flatK,W]
 have h9:N*sz<=arr.size-L.base:=by omega
 obtain⟨w1,w2⟩:=Fc gf Q gp iu M (putCells id (L.base+0*sz) (flatK enc sz d') arr) (by simp[putCells]) HJ ((d'.toList.map λe=>e.a).map fc).flatten (by rw[BU];exact E) (λi dd hi=>by
  have T:i<N*sz:=by rw[<-BU];exact(ae.1 hi).1
  have hq:i / sz<N:=Nat.div_lt_of_lt_mul (by rw[dQ];exact T);have A:i % sz<sz:=Nat.mod_lt _ O;have s:=d'[i / sz].cells
  rw[Ng sz O _ (λx s=>by
   simp only[ar]at s;obtain⟨a,⟨e,_,rfl⟩,rfl⟩:=s
   exact hl _ e.mem)]at hi
  have p:(List.map fc (List.map (λe=>e.a) d'.toList))[i / sz]? = some (fc d'[i / sz].a):=by simp only[au,bF];rw[cd (by omega)];rfl
  rw[p,Option.bind_some]at hi;have iH:(d'[i / sz].vs).length=sz:=iA d'[i / sz];have I:(d'[i / sz].vs)[i % sz]? = some (d'[i / sz].vs)[i % sz]:=List.getElem?_eq_getElem (by omega);refine⟨(d'[i / sz].vs)[i % sz],?_,s.one _ (bT _),gh.closed (c:=c.data c.F) (c':=c) (λb F=>F) (s.rep _ _ _ I hi) (xX (gI _ d'[i / sz].mem) hi)⟩;rw[putCells,dz,cd (by omega),aH,if_pos ⟨by omega,by rw[hF];omega⟩];rw[show L.base+i-(L.base+0*sz)=i by omega,get_flatK _ _ _ _ (by rw[W];exact T),getElem!_pos d' (i / sz) (by omega)];show some (id (d'[i / sz].vs)[i % sz]!)=_
  rw[getElem!_pos _ (i % sz) (by omega)];rfl)
 have zW:kj (w.setRow L.b (putCells id (L.base+0*sz) (flatK enc sz d') arr)) (sortWorldK enc sz w L.b (L.base+0*sz) n d' os):=by
  refine⟨⟨rfl,fj _ _⟩,rfl,rfl,?_,λb F=>?_⟩
  .simp[World.setRow,sortWorldK,grow,putRowK,putRow,mapBlock,Go.Sort.ahead]
  .have uP:b<w.heap.size:=by simpa[World.setRow]using F
   by_cases Y:b=L.b
   .subst Y;rw[setRow_heap w L.b arr _ t _ M];simp only[sortWorldK,grow,putRowK,putRow,mapBlock,Go.Sort.ahead];rw[cE (by simpa using uP),bg,if_pos rfl,M];rfl
   .rw[aaW _ _ _ _ _ _ _ uP Y];simp only[World.setRow,bg];rw[if_neg (cu Y)]
 exact⟨_,c,_,_,rfl,k _ b1 a2,by simp,w1.pQ zW,.tup [] [] rfl (λi v d Q=>by simp at Q),w2.trans (CR _ zW) (Nat.le_refl _)⟩
end
end Go.AL
namespace Go.AL
open Go Go.Proofs Go.Shelf Go.RowKit Go.Lib Go.Sort
structure AY(P:Program)(f:FuncId):Prop where
 full:∀(lP off cap:Nat) (zs:List Int) (w:World) (_:Holds (Value.int .i64) w lP off zs.toArray) (_:lP<w.heap.size) (_:zs.length<4611686018427387904),
  Calls P f #[.slice (some ⟨lP,off,none⟩) zs.length cap] w λe w'=>e = .returned (.tuple #[])/\∃n os,w'=grow (putRow (Value.int .i64) (Go.Sort.ahead w n) lP off (zs.mergeSort λx y=>decide (x<=y)).toArray) os
section
variable{P:Program}{G:GT}{c:Ctx}{H:U}{w:World}
theorem aok{f:FuncId}(hS:AY P f)(l:List Int)(h0:0<l.length)(M:l.length<4611686018427387904){v gen:Nat}{t:TypeId}(m:H[v]? = some (.row t gen (l.map λn=>D.i n))){R:D->U->Prop}
  (k:R (.tup []) (H.set v (.row t gen ((l.mergeSort λx y=>decide (x<=y)).map λn=>D.i n)))):vc P G f [.fY v gen 1 0 l.length] H R:=by
 intro c w vs gf s
 cases s with
 | @cons u _ _ _ h1 s=>
 cases s;have E:l.length=l.length:=rfl;revert E;generalize hN:l.length=N at h1;intro E
 cases h1 with
 | mw=>omega
 | fY _ _ _ _ _ cap L z r ka jb mG=>
 have p:=gf.ob v _ m;simp only[Ob.gen]at p;rw[z]at p;simp only[ia,r]at p;obtain⟨arr,h,Y,g,Q⟩:=p;rw[List.length_map,hN]at g;have K:mh c H L.b:=⟨v,L,⟨_,m,rfl,z⟩,r,rfl⟩;have o:=gf.lt _ K;have J:∀j,w.cell? ⟨L.b,j,none⟩=arr[j]? := λj=>by simp[World.cell?,h]
 have W:Holds (Value.int .i64) w L.b (L.base+0*1) l.toArray:=by
  intro j T;have B:j<l.length:=by simpa using T
  obtain⟨y,h1,h2,X⟩:=Q j (.i l[j]) (by simp[B]);cases X;refine⟨?_,by simp[World.frozen?,h]⟩;rw[J,show L.base+0*1+j=L.base+j by omega,h1];simp[B]
 have C:=hS.full L.b (L.base+0*1) cap l w W o M;rw[hN]at C;refine C.mono ?_;rintro e w' ⟨rfl,n,os,rfl⟩;generalize S:(l.mergeSort λx y=>decide (x<=y))=l' at k ⊢;have Z:l'.length=N:=by rw[<-S,eC,hN]
 obtain⟨w1,w2⟩:=Fc gf m z r h (putCells (Value.int .i64) (L.base+0*1) l'.toArray arr) (by simp[putCells]) Y (l'.map λn=>D.i n) (by rw[List.length_map,Z];exact g) (λi dd hi=>by
  rw[au]at hi;obtain⟨a,F,rfl⟩:=aj.1 hi;have I:i<l'.length:=(ae.1 F).1;refine⟨.int .i64 a,?_,rfl,.val _⟩;rw[putCells,dz,cd (by omega),aH,if_pos ⟨by omega,by simp;omega⟩];rw[show L.base+i-(L.base+0*1)=i by omega,getElem!_pos l'.toArray i (by simpa using I)];have:=(ae.1 F).2
  simp[this])
 have A:kj (w.setRow L.b (putCells (Value.int .i64) (L.base+0*1) l'.toArray arr)) (grow (putRow (Value.int .i64) (Go.Sort.ahead w n) L.b (L.base+0*1) l'.toArray) os):=by
  refine⟨⟨rfl,fj _ _⟩,rfl,rfl,?_,λb V=>?_⟩
  .simp[World.setRow,grow,putRow,mapBlock,Go.Sort.ahead]
  .have O:b<w.heap.size:=by simpa[World.setRow]using V
   simp only[grow,putRow,mapBlock,Go.Sort.ahead];rw[cE (by simpa using O),bg]
   by_cases q:L.b=b
   .subst q;rw[setRow_heap w L.b arr _ t _ h,if_pos rfl,h];rfl
   .simp only[World.setRow,bg];rw[if_neg q,if_neg q]
 exact⟨_,c,_,_,rfl,k,by simp,w1.pQ A,.tup [] [] rfl (λi v d m=>by simp at m),w2.trans (CR _ A) (Nat.le_refl _)⟩
end
end Go.AL
namespace Go.AL
open Go Go.Proofs Go.Shelf Go.RowKit Go.Lib Go.Sort
structure AR(P:Program)(f:FuncId):Prop where
 full:∀(lP off cap i:Nat) (zs:List Int) (w:World) (_:Holds (Value.int .i64) w lP off zs.toArray) (_:zs.length<=cap) (_:cap<=9223372036854775807) (_:i<zs.length),
  Calls P f #[.slice (some ⟨lP,off,none⟩) zs.length cap,.int .i64 i,.int .i64 ((i:Int)+1)] w λe w'=>e = .returned (.slice (some ⟨lP,off,none⟩) (zs.length-1) cap)/\∃n,w'=putRow (Value.int .i64) (Go.Sort.ahead w n) lP off (zs.take i++zs.drop (i+1) ++ [0]).toArray
section
variable{P:Program}{G:GT}{c:Ctx}{H:U}{w:World}
theorem adf{f:FuncId}(hS:AR P f)(l:List Int)(i:Nat)(hi:i<l.length){v gen:Nat}{t:TypeId}{zs:List D}(B:H[v]? = some (.row t gen (l.map (λn=>D.i n)++zs))){R:D->U->Prop}
  (k:R (.fY v gen 1 0 (l.length-1)) (H.set v (.row t gen ((l.take i++l.drop (i+1) ++ [0]).map (λn=>D.i n)++zs)))):vc P G f [.fY v gen 1 0 l.length,.i i,.i ((i:Int)+1)] H R:=by
 intro c w vs gf g
 cases g with
 | @cons u _ _ _ h1 g=>
 cases g with
 | @cons u2 _ _ _ s g=>
 cases g with
 | @cons u3 _ _ _ p g=>
 cases g;cases s;cases p;have M:l.length=l.length:=rfl;revert M;generalize hN:l.length=N at h1;intro M
 cases h1 with
 | mw=>omega
 | fY _ _ _ _ _ cap L x q ka J X=>
 have r:=gf.ob v _ B;simp only[Ob.gen]at r;rw[x]at r;simp only[ia,q]at r;obtain⟨arr,o,HJ,d,F⟩:=r;rw[ak,List.length_map,hN]at d;have T:mh c H L.b:=⟨v,L,⟨_,B,rfl,x⟩,q,rfl⟩;have O:=gf.lt _ T;have S:∀j,w.cell? ⟨L.b,j,none⟩=arr[j]? := λj=>by simp[World.cell?,o]
 have hH:Holds (Value.int .i64) w L.b (L.base+0*1) l.toArray:=by
  intro j m;have z:j<l.length:=by simpa using m
  obtain⟨y,h1,s,p⟩:=F j (.i l[j]) (by rw[ah (by simpa using z)];simp[z]);cases p;refine⟨?_,by simp[World.frozen?,o]⟩;rw[S,show L.base+0*1+j=L.base+j by omega,h1];simp[z]
 have K:=hS.full L.b (L.base+0*1) cap i l w hH (by omega) (by unfold maxLen at J;omega) hi;rw[hN]at K k;refine K.mono ?_;rintro e w' ⟨rfl,n,rfl⟩;generalize W:l.take i++l.drop (i+1) ++ [0]=l' at k ⊢
 have Q:l'.length=N:=by rw[<-W,ak,ak,aK,aR,aY,hN];omega
 obtain⟨w1,w2⟩:=Fc gf B x q o (putCells (Value.int .i64) (L.base+0*1) l'.toArray arr) (by simp[putCells]) HJ (l'.map (λn=>D.i n)++zs) (by rw[ak,List.length_map,Q];exact d) (λj dd m=>by
  by_cases I:j<l'.length
  .rw[ah (by simpa using I),au]at m;obtain⟨a,Z,rfl⟩:=aj.1 m;refine⟨.int .i64 a,?_,rfl,.val _⟩;rw[putCells,dz,cd (by omega),aH,if_pos ⟨by omega,by simp;omega⟩];rw[show L.base+j-(L.base+0*1)=j by omega,getElem!_pos l'.toArray j (by simpa using I)];have:=(ae.1 Z).2;simp[this]
  .have C:l'.length<=j:=by omega
   rw[ai (by simpa using C),List.length_map,Q]at m;obtain⟨y,h1,s,p⟩:=F j dd (by rw[ai (by rw[List.length_map];omega),List.length_map,hN];exact m);refine⟨y,?_,s,p⟩
   rw[putCells,dz,h1,aH,if_neg (λh=>by have:=h.2;simp at this;omega)])
 have E:kj (w.setRow L.b (putCells (Value.int .i64) (L.base+0*1) l'.toArray arr)) (putRow (Value.int .i64) (Go.Sort.ahead w n) L.b (L.base+0*1) l'.toArray):=by
  refine⟨⟨rfl,fj _ _⟩,rfl,rfl,?_,λb Y=>?_⟩
  .simp[World.setRow,putRow,mapBlock,Go.Sort.ahead]
  .have uP:b<w.heap.size:=by simpa[World.setRow]using Y
   simp only[putRow,mapBlock,Go.Sort.ahead];rw[bg]
   by_cases A:L.b=b
   .subst A;rw[setRow_heap w L.b arr _ t _ o,if_pos rfl,o];rfl
   .simp only[World.setRow,bg];rw[if_neg A,if_neg A]
 have V:gh c (putRow (Value.int .i64) (Go.Sort.ahead w n) L.b (L.base+0*1) l'.toArray) (.slice (some ⟨L.b,L.base+0*1,none⟩) (N-1) cap) (.fY v gen 1 0 (N-1)):=.fY v gen 1 0 (N-1) cap L x q (by omega) J X;exact⟨_,c,_,_,rfl,k,by simp,w1.pQ E,V,w2.trans (CR _ E) (Nat.le_refl _)⟩
end
end Go.AL
namespace Go.AL
open Go
def Out.ex:Out->Exit
 | .norm _=>.normal
 | .exit id _=>.exit id
 | .ret _=>.ret
def amL(A:Array Oper):List (List Nat):=A.toList.foldl (init:=[]) λa o=>
 a ++ [dedup ((o.after.toList.filter λe=>Region.binds .any e).flatMap λe=>e.on::a.getD e.on [])]
def amW(l:List ic)(ord:List (List Nat)):List (Nat×Nat):=(List.range l.length).flatMap λi=>(List.range i).filterMap λk=>
 if (ord.getD i []).contains k then none else match l[k]?,l[i]? with
  | some a,some b=>if Pb a.op b.op then none else some (k,i)
  | _,_=>none
def YZ:List FuncId:=[283]
def Sm:iL->Bool
 | .call f _=>YZ.contains f
 | .callN f _=>YZ.contains f
 | .callv _ xs=>xs.length == 4
 | _=>false
def Y4(A:Array Oper)(l:List ic)(ord:List (List Nat))(n:Nat):Bool:=n<l.length&&(List.range l.length).all λi=>decide (i<n)||(List.range i).all λk=>(ord.getD i []).contains k||(decide (n<=k)&&decide (k+1=i)&&E6 A k i)
def VM(A:Array Oper)(a:List (Nat×Nat))(l:List ic)(ord:List (List Nat)):IR:=
 let n:=l.findIdx λe=>Sm e.op
 if Y4 A l ord n then .mR a (l.take n) (l.drop n)else .l6 a l
def nY:Code->List (Array Tmp×Code×Code)
 | .seq a b=>nY a++nY b
 | .cond _ a b=>nY a++nY b
 | .block _ a=>nY a
 | .loop a=>nY a
 | .rangeFunc _ ps a b=>(ps,a,b)::(nY a++nY b)
 | _=>[]
def cC(P:Program)(G:GT)(N:Nat)(rf:Nat):List (List Nat)->Code->Option (IR×List (List Nat))
 | hs,.skip=>some (.skip,hs)
 | hs,.region _ ops false=>match pM P G N ops ops.toList with
  | some l=>some (.ops l,hs)
  | none=>some (.bad,hs)
 | hs,.region _ ops true=>match pM P G N ops ops.toList with
  | some l=>
   let ord:=amL ops
   let d:=amW l ord
   if zB ops&&yO ops ord&&S9 l ord d then some (VM ops d l ord,hs)else some (.bad,hs)
  | none=>some (.bad,hs)
 | hs,.seq a b=>match cC P G N rf hs a with
  | some (x,lz)=>match cC P G N (rf+(nY a).length) lz b with
   | some (y,lU)=>some (.seq x y,lU)
   | none=>none
  | none=>none
 | hs,.cond c a b=>match cX G c with
  | some x=>match cC P G N rf hs a with
   | some (y,lz)=>match cC P G N (rf+(nY a).length) lz b with
    | some (z,lU)=>some (.cond x y z,lU)
    | none=>none
   | none=>none
  | none=>some (.bad,hs)
 | hs,.block id a=>match hs with
  | l::hs=>match cC P G N rf hs a with
   | some (x,lz)=>some (.block id l x,lz)
   | none=>none
  | []=>none
 | hs,.loop a=>match hs with
  | l::hs=>match cC P G N rf hs a with
   | some (x,lz)=>some (.loop l x,lz)
   | none=>none
  | []=>none
 | hs,.rangeFunc g _ _ _=>match cX G g,hs with
  | some x,l::hs=>some (.oB rf l x,hs)
  | _,_=>some (.bad,hs)
 | hs,.exit id=>some (.exit id,hs)
 | hs,.ret=>some (.ret,hs)
 | hs,_=>some (.bad,hs)
inductive nZ(P:Program)(G:GT)(N:Nat):IR->Code->Prop
 | skip:nZ P G N .skip .skip
 | ops {l id A} (h:pM P G N A A.toList=some l):nZ P G N (.ops l) (.region id A false)
 | l6 {jG l id A} (ord:List (List Nat)) (h:pM P G N A A.toList=some l) (he:zB A=true) (ho:yO A ord=true) (hp:S9 l ord jG=true):nZ P G N (.l6 jG l) (.region id A true)
 | mR {jG l es id A} (ord:List (List Nat)) (h:pM P G N A A.toList=some (l++es)) (he:zB A=true) (ho:yO A ord=true) (hp:S9 (l++es) ord jG=true) (z6:∀i,l.length<=i->i<(l++es).length->∀k,k<i->k∈ord.getD i []\/(l.length<=k/\k+1=i/\E6 A k i=true)):nZ P G N (.mR jG l es) (.region id A true)
 | seq {a b x y} (h1:nZ P G N x a) (h2:nZ P G N y b):nZ P G N (.seq x y) (.seq a b)
 | cond {c a b x y z} (hc:cX G c=some x) (h1:nZ P G N y a) (h2:nZ P G N z b):nZ P G N (.cond x y z) (.cond c a b)
 | block {id l a x} (h:nZ P G N x a):nZ P G N (.block id l x) (.block id a)
 | loop {l a x} (h:nZ P G N x a):nZ P G N (.loop l x) (.loop a)
 | oB {rf l x g ps ac bc} (hx:cX G g=some x) (h:G.rt rf=some (N,ps,ac,bc)):nZ P G N (.oB rf l x) (.rangeFunc g ps ac bc)
 | exit {id}:nZ P G N (.exit id) (.exit id)
 | ret:nZ P G N .ret .ret
 | bad {c}:nZ P G N .bad c
def AW(G:GT)(N rf:Nat)(code:Code):Prop:=∀(i:Nat) (x:Array Tmp×Code×Code),(nY code)[i]? = some x->G.rt (rf+i)=some (N,x)
theorem AW.left{G:GT}{N rf:Nat}{a b:Code}{l:List (Array Tmp×Code×Code)}(hl:l=nY a++nY b)(h:∀(i:Nat) (x:Array Tmp×Code×Code),l[i]? = some x->G.rt (rf+i)=some (N,x)):AW G N rf a/\AW G N (rf+(nY a).length) b:=by
 subst hl;refine⟨λi x c=>h i x ?_,λi x c=>?_⟩
 .grind
 .rw[a8];exact h _ x (by rw[ai (by omega)];simpa using c)
theorem PL{P:Program}{G:GT}{N:Nat}:∀ {code:Code} {rf:Nat} {hs j:List (List Nat)} {f:IR},AW G N rf code->cC P G N rf hs code=some (f,j)->nZ P G N f code:=by
 intro code
 induction code with
 | skip=>intro rf hs j f d h;simp only[cC]at h;cases h;exact .skip
 | region id A l6=>
  intro rf hs j f d h;cases l6
  .simp only[cC]at h;split at h
   .rename_i l hl;cases h;exact .ops hl
   .cases h;exact .bad
  .simp only[cC]at h;split at h
   .rename_i l hl;split at h
    .rename_i n;cases h;simp only[Bool.and_eq_true]at n;unfold VM;dsimp only;split
     .rename_i v;unfold Y4 at v;simp only[Bool.and_eq_true,bQ,decide_eq_true_eq,List.all_eq_true,bj,dw]at v;refine .mR _ (by rw[bX];exact hl) n.1.1 n.1.2 (by rw[bX];exact n.2) λi hi w k D=>?_;rw[bX]at w;have C:(l.take (l.findIdx λe=>Sm e.op)).length=l.findIdx λe=>Sm e.op:=by rw[aK];omega
      rw[C]at hi ⊢;rcases v.2 i w with h|h
      .omega
      .exact(h k D).imp (λh=>h) λh=>⟨h.1.1,h.1.2,h.2⟩
     .exact .l6 _ hl n.1.1 n.1.2 n.2
    .cases h;exact .bad
   .cases h;exact .bad
 | seq a b m p=>
  intro rf hs j f d h;obtain⟨r,s⟩:=AW.left rfl d;simp only[cC]at h;split at h
  .rename_i x q o;split at h
   .rename_i y B u;cases h;exact .seq (m r o) (p s u)
   .cases h
  .cases h
 | cond c a b m p=>
  intro rf hs j f d h;obtain⟨r,s⟩:=AW.left rfl d;simp only[cC]at h;split at h
  .rename_i x t;split at h
   .rename_i y q o;split at h
    .rename_i z B u;cases h;exact .cond t (m r o) (p s u)
    .cases h
   .cases h
  .cases h;exact .bad
 | block id a m=>
  intro rf hs j f d h;simp only[cC]at h;split at h
  .split at h
   .rename_i x q o;cases h;exact .block (m d o)
   .cases h
  .cases h
 | loop a m=>
  intro rf hs j f d h;simp only[cC]at h;split at h
  .split at h
   .rename_i x q o;cases h;exact .loop (m d o)
   .cases h
  .cases h
 | rangeFunc g ps a b m p=>
  intro rf hs j f d h;simp only[cC]at h;split at h
  .rename_i x l q t;cases h;exact .oB t (d 0 _ rfl)
  .cases h;exact .bad
 | exit id=>intro rf hs j f d h;simp only[cC]at h;cases h;exact .exit
 | ret=>intro rf hs j f d h;simp only[cC]at h;cases h;exact .ret
 | _=>intro rf hs j f d h;simp only[cC]at h;cases h;exact .bad
def cR(P:Program):ResultVar->Option ve
 | .tmp t=>some (.tmp t)
 | .cell a t=>match pb P t,ky P t with
  | some false,some _=>some (.tB a)
  | some true,some n=>some (.PN n a)
  | _,_=>none
def A0(P:Program):List ResultVar->Option (List ve)
 | []=>some []
 | x::r=>match cR P x,A0 P r with
  | some a,some l=>some (a::l)
  | _,_=>none
def AI(P:Program)(k:Nat):Option (Nat×Array Tmp×Code×Code):=match P.funcs[k / 64]? with
 | some fn=>match fn.body with
  | some code=>(nY code)[k % 64]?.map λx=>(fn.ntmps,x)
  | none=>none
 | none=>none
theorem am6{P:Program}{G:GT}(d:G.rt=AI P){f:Nat}{fn:Func}{code:Code}(b:P.funcs[f]? = some fn)(c:fn.body=some code)(hl:(nY code).length<=64):AW G fn.ntmps (64*f) code:=by intro i x a;have hi:i<64:=aO (ae.1 a).1 hl;rw[d];unfold AI;rw[show(64*f+i) / 64=f by omega,show(64*f+i) % 64=i by omega,b];simp[c,a]
structure FD(P:Program)(G:GT)(f:FuncId)(fn:jw):Prop where
 ex:∃func code hs im,P.funcs[f]? = some func/\func.body=some code/\s5 P f=true/\(nY code).length<=64/\cC P G fn.ntmps (64*f) hs code=some (fn.body,im)/\func.ntmps=fn.ntmps/\A0 P func.results.toList=some fn.results
structure vf(P:Program)(G:GT)(rf:Nat)(R:qy):Prop where
 ex:∃N ps ac bc,G.rt rf=some (N,ps,ac,bc)/\ps.toList=R.params/\(R.params.all λp=>decide (p<N))=true/\nZ P G N R.a ac/\nZ P G N R.b bc
structure Py(P:Program)(G:GT)(T:iB):Prop where
 rt:G.rt=AI P
 fn:∀f fn,T.fn f=some fn->FD P G f fn
 round:∀rf R,T.round rf=some R->vf P G rf R
 sort:∀f sz,T.sort f=some sz->xO P f sz
 tt:∀f,T.tt f=true->AY P f
 sZ:∀f,T.sZ f=true->AR P f
def Ml(F:Fence)(n:Nat)(P:Program)(c:Code)(Q:Exit->Act->World->Prop)(a:Act)(w:World):Prop:=
 ∀(b:Frame) (k:List Item) (cs:List Frame),b.roundOf=F.round->F.fn b.fn->F.room (cs.length+1+n) ->
  ∃e d w',Q e d w'/\ArrivesIn (Machine.fenced P F) P (lone (b.atR a (.code c :: .inLoop c::k)) cs w) b k cs e d w'
section
variable{F:Fence}{n:Nat}{P:Program}{Q:Exit->Act->World->Prop}{a:Act}{w:World}
theorem ahm{c:Code}(h:c.wpIn F n P (Exit.then (Ml F n P c Q) Q) a w):Ml F n P c Q a w:=by
 intro b k cs t m j;obtain⟨e,i,g,f,d⟩:=h b (.inLoop c::k) cs t m j
 cases e with
 | normal=>
  obtain⟨r,s,o,p,q⟩:=f b k cs t m j;exact⟨r,s,o,p,.of_steps (StepsIn.trans d (.one (fenced_calm m j rfl) stepR_inLoop)) q⟩
 | exit id=>exact⟨_,i,g,f,.pass (x:=.inLoop c) rfl (λ_ _=>.inl (by simp)) d⟩
 | goto l=>exact⟨_,i,g,f,.pass (x:=.inLoop c) rfl (λ_ _=>.inl (by simp)) d⟩
 | ret=>exact⟨_,i,g,f,.pass (x:=.inLoop c) rfl (λ_ _=>.inl (by simp)) d⟩
 | panic ch=>exact⟨_,i,g,f,.pass (x:=.inLoop c) rfl (λ_ _=>.inl (by simp)) d⟩
 | outgrown=>exact⟨_,i,g,f,.pass (x:=.inLoop c) rfl (λ_ _=>.inl (by simp)) d⟩
theorem aoM{c:Code}(h:Ml F n P c Q a w):(Code.loop c).wpIn F n P Q a w:=by intro b k cs i f d;obtain⟨e,l,w',j,g⟩:=h b k cs i f d;exact⟨e,l,w',j,.of_steps (.one (fenced_calm f d rfl) stepR_loop) g⟩
end
section
variable{P:Program}{G:GT}{c:Ctx}{w:World}{a:Act}{N:Nat}
theorem PF(δ:Dl)(H:U):H.length<=(δ.app H (Al.last H)).length:=by
 cases δ with
 | no=>exact Nat.le_refl _
 | cells v o xs=>simp only[Dl.app];split<;>simp
 | obj v ob=>simp[Dl.app]
 | new ob=>simp[Dl.app,Al.last]
theorem O6(ks:nL)(H:U):(rC ks H).length=ks.length:=by simp[rC]
theorem ZB{ks:nL}{H:U}{f:Nat->Nat}:∀ {vs:List Nat} {ds:List Deferred},sq c vs ds->(∀v∈vs,∀L,c.ι v 0=some L->(c.gq ks H).ι (f v) 0=some L)->sq (c.gq ks H) (vs.map f) ds:=by
 intro vs ds h
 induction h with
 | nil=>intro _;exact .nil
 | cons L h1 e _ b=>intro a;exact .cons L (a _ (by simp) L h1) e (b λv d=>a v (by simp[d]))
theorem abb{n:Nat}{d:D}{v:Nat}(a:v∈jv n d):n<=v:=by cases d<;>simp only[jv]at a<;>first|(split at a<;>simp at a;omega)|(simp at a)
theorem ZO{n:Nat}{o:Ob}{v:Nat}(a:v∈oZ n o):n<=v:=by
 unfold oZ at a;split at a
 .obtain⟨l2,b,c⟩:=bh.1 a;obtain⟨d,_,rfl⟩:=ar.1 b;exact abb c
 .obtain⟨l2,b,c⟩:=bh.1 a;obtain⟨d,_,rfl⟩:=ar.1 b;exact abb c
 .cases a
theorem zz{s:St}(hs:lq G N c w s a){n:Nat}(r:n<=s.H.length)(live:List Nat) :
  ∃c',lq G N c' w (cut n live s) a/\Step n c s.H w c' (cut n live s).H w/\n<=(cut n live s).H.length:=by
 unfold cut;split
 .exact⟨c,⟨hs.gf,Dy hs.env live,hs.size,hs.marks⟩,Step.refl _ _ _ _,r⟩
 .dsimp only;generalize j:dedup _=K
  have m:∀v∈K,v∈(((forget live s.env).map λp=>jv n p.2).flatten++((s.H.take n).map (oZ n)).flatten++s.marks.filter (n<=·)).filter (· < s.H.length):=λv b=>by rw[<-j]at b;exact Ih b
  have y:∀(d:D) (v:Nat),v∈jv n d->n<=v:=by intro d v b;cases d<;>simp only[jv]at b<;>first|(split at b<;>simp at b;omega)|(simp at b)
  have x:∀v∈K,n<=v:=by
   intro v b;have:=(aN.1 (m v b)).1;rcases List.mem_append.1 this with h|h
   .rcases List.mem_append.1 h with h|h
    .grind
    .obtain⟨l,hl,q⟩:=bh.1 h;obtain⟨o,_,rfl⟩:=ar.1 hl;exact ZO q
   .grind
  have e:AU (ji n K):=YR x (by rw[<-j];exact Ox _);have t:=TG (ks:=ji n K) hs.gf (n:=n) YQ;refine⟨c.gq (ji n K) s.H,⟨EU hs.gf e,VU hs.gf (Dy hs.env live),hs.size,?_⟩,t,?_⟩
  .refine ZB hs.marks λv b L g=>?_
   have u:v<s.H.length:=by
    rcases bH v s.H.length with h|h
    .exact h
    .rw[hs.gf.out v 0 h]at g;cases g
   have:∃i,iI (ji n K) v=some i:=by
    by_cases k:v<n
    .refine⟨v,Tr e ?_⟩;unfold ji;rw[ah (by simpa using k)];simp[k]
    .have f:v∈K:=by rw[<-j];refine MW (aN.2 ⟨bG _ (aN.2 ⟨b,by simpa using fQ.1 k⟩),by simpa using u⟩)
     obtain⟨i,hi⟩:=aC.1 f;refine⟨n+i,Tr e ?_⟩;unfold ji;rw[ai (by simp)];simp[hi]
   obtain⟨i,hi⟩:=this;rw[hi];simp only[aZ];rw[Fg hi];exact g
  .rw[O6];simp[ji]
theorem WR{s:St}(hs:lq G N c w s a)(S:List Nat):∃c',lq G N c' w (l8 S s) a/\Step s.H.length c s.H w c' (l8 S s).H w/\(l8 S s).H.length=s.H.length:=by
 refine⟨c.gq (mC s.H S) s.H,⟨EU hs.gf WQ,VU hs.gf hs.env,hs.size,?_⟩,TG hs.gf WO,Qv⟩
 have:=ZB (ks:=mC s.H S) (H:=s.H) (f:=id) hs.marks λv _ L b=>by
  have i:v<s.H.length:=by
   rcases bH v s.H.length with h|h
   .exact h
   .rw[hs.gf.out v 0 h]at b;cases b
  have d:=WO (S:=S) v i;simp only[aj]at d;obtain⟨p,g,e⟩:=d;simp only[Ctx.gq,id,g,e];exact b
 simpa[l8]using this
theorem amQ{n:Nat}{d:D}{v:Nat}(a:v∈EI n d):n<=v:=by
 unfold EI at a;split at a
 .grind
 .grind
 .simp at a
theorem wh{H:U}(gf:gE G c H w){n:Nat}(i:n<=H.length)(own:Nat){u:Value}{d:D}(b:gh c w u d) :
  ∃c',gE G c' (leave own n H d).2 w/\gh c' w u (leave own n H d).1/\Step n c H w c' (leave own n H d).2 w/\n<=(leave own n H d).2.length:=by
 unfold leave;split
 .exact⟨c,gf,b,Step.refl _ _ _ _,i⟩
 .dsimp only;generalize e:dedup _=K
  have j:∀v∈K,n<=v:=by
   intro v a;rw[<-e]at a;have:=(aN.1 (Ih a)).1;rcases List.mem_append.1 this with h|h
   .split at h
    .simp at h
    .exact amQ h
    .grind
    .grind
   .obtain⟨l,hl,g⟩:=bh.1 h;obtain⟨o,_,rfl⟩:=ar.1 hl;exact ZO g
  have f:AU (ji n K):=YR j (by rw[<-e];exact Ox _);exact⟨c.gq (ji n K) H,EU gf f,AD gf 40 b,TG gf YQ,by rw[O6];simp[ji]⟩
theorem ahE(args:List D)(k:Nat):(uf args).get k=(args[k]?).getD .any:=by
 have key:∀(l:List D) (i k:Nat),Env.get ((l.zipIdx i).map λp=>(p.2,p.1)) k=if k<i then .any else(l[k-i]?).getD .any:=by
  intro l
  induction l with
  | nil=>intro i k;simp[Env.get]
  | cons d l a=>
   intro i k;simp only[List.zipIdx_cons,List.map_cons,Env.wW];split
   .grind
   .grind
 have:=key args 0 k;simpa[uf]using this
theorem ads{vs:List Value}{args:List D}(b:jC c w vs args)(n:Nat):kT c w (uf args).get { tmps:=vs.toArray++Array.replicate (n-vs.toArray.size) undef,defers:=[] }:=λk=>by
 rw[ahE];have hl:=b.length
 cases f:args[k]? with
 | none=>exact .any _
 | some d=>
  have a:k<vs.length:=by rw[hl];exact(ae.1 f).1
  have g:vs[k]? = some vs[k]:=by simp[a]
  have:=b.get k vs[k] d g f;simp only[aZ]
  have e:(vs.toArray++Array.replicate (n-vs.toArray.size) undef).getD k undef=vs[k]:=by rw[cT,cE (by simpa using a)];simp[a]
  rw[e];exact this
theorem ahf{H:U}(h:gE G c H w){t:TypeId}(k:pb P t=some false){x d:D}{u:Value}(j:gh c w u x)(a:xm x H=some d) :
  ∃v,(Instr.loadAt t u).run P w = .ok v w/\gh c w v d/\∃b o,u = .pointer (some ⟨b,o,none⟩):=by
 unfold xm at a;split at a
 .rename_i v g o;split at a
  .rename_i n cs m;have l:=uv m;obtain⟨b,p,rfl,f⟩:=MC h l j;obtain⟨u,e,_,i⟩:=O2 k f (d:=d) (by simpa using a);exact⟨u,e,i,b,p,rfl⟩
  .cases a
 .rename_i cs;obtain⟨b,p,rfl,_,f⟩:=zp j;obtain⟨u,e,_,i⟩:=O2 k f a;exact⟨u,e,i,b,p,rfl⟩
 .cases a
theorem ahg{H:U}(h:gE G c H w){t:TypeId}{n:Nat}(l:pb P t=some true)(hs:ky P t=some n){x d:D}{u:Value}(k:gh c w u x)(a:wg n x H=some d) :
  ∃v,(Instr.loadAt t u).run P w = .ok v w/\gh c w v d/\∃b o,u = .pointer (some ⟨b,o,none⟩):=by
 unfold wg at a;split at a
 .rename_i v g o;split at a
  .rename_i r cs q;split at a
   .rename_i e;cases a;have m:=uv q;obtain⟨b,p,rfl,i⟩:=MC h m k;obtain⟨u,f,j⟩:=O3 (n:=n) l hs i (by simp;omega);exact⟨u,f,j,b,p,rfl⟩
   .cases a
  .cases a
 .rename_i cs;split at a
  .rename_i e;cases a;obtain⟨b,p,rfl,_,i⟩:=zp k;obtain⟨u,f,j⟩:=O3 (n:=n) l hs i e;exact⟨u,f,j,b,p,rfl⟩
  .cases a
 .cases a
def Cq(tmps:Array Value):ResultVar->Sem Value
 | .tmp t=>pure (tmps.getD t undef)
 | .cell a t=>do loadVar t (<-asAddr (tmps.getD a undef))
theorem anh{s:St}(hs:lq G N c w s a){x:ResultVar}{X:ve}(e:cR P x=some X){d:D}(f:EP s X=some d) :
  ∃v,(Cq a.tmps x).run P w = .ok v w/\gh c w v d:=by
 cases x with
 | tmp t=>
  cases e;simp only[EP,aq]at f;subst f;exact⟨_,rfl,hs.env t⟩
 | cell p t=>
  have j:=hs.env p;generalize q:a.tmps.getD p undef=u at j
  have key:∀v,(Instr.loadAt t u).run P w = .ok v w->(∃b o,u = .pointer (some ⟨b,o,none⟩))->(Cq a.tmps (.cell p t)).run P w = .ok v w:=by rintro v h ⟨b,o,rfl⟩;simpa[Instr.loadAt,Instr.sureAddr,asAddr,Cq,q]using h
  simp only[cR]at e;split at e
  .rename_i n l m;cases e;obtain⟨v,g,i,k⟩:=ahf hs.gf l j f;exact⟨v,key v g k,i⟩
  .rename_i n l m;cases e;obtain⟨v,g,i,k⟩:=ahg hs.gf l m j f;exact⟨v,key v g k,i⟩
  .cases e
theorem Tq{s:St}(hs:lq G N c w s a):∀(l:List ResultVar) {xs:List ve} {ds:List D},A0 P l=some xs->u5 s xs=some ds ->
  ∃vs:List Value,(l.mapM (Cq a.tmps)).run P w = .ok vs w/\jC c w vs ds
 | [],xs,ds,h1,h2=>by cases h1;cases h2;exact⟨[],rfl,.nil⟩
 | x::l,xs,ds,h1,h2=>by
  simp only[A0]at h1;split at h1
  .rename_i X k hX j;cases h1;simp only[u5]at h2;split at h2
   .rename_i d i h b;cases h2;obtain⟨v,f,g⟩:=anh hs hX h;obtain⟨vs,e,r7⟩:=Tq hs l j b;exact⟨v::vs,by simp[eQ,f,e],.cons g r7⟩
   .cases h2
  .cases h1
theorem anj{s:St}(hs:lq G N c w s a){func:Func}{fn:jw}(k:A0 P func.results.toList=some fn.results){d:D}(g:AL.results fn s=some d) :
  ∃v,(Go.results func a.tmps).run P w = .ok v w/\gh c w v d:=by
 have e:∀vs:List Value,(func.results.toList.mapM (Cq a.tmps)).run P w = .ok vs w->(Go.results func a.tmps).run P w = .ok (if h:vs.toArray.size=1 then vs.toArray[0]else .tuple vs.toArray) w:=by
  intro vs b
  have h1:(func.results.mapM (Cq a.tmps)).run P w = .ok vs.toArray w:=by rw[e9,Sem.run_map,b];rfl
  have j:Go.results func a.tmps=(do let vs <-func.results.mapM (Cq a.tmps);pure (if h:vs.size=1 then vs[0]else .tuple vs)):=rfl;rw[j,Sem.run_bind,h1];rfl
 unfold AL.results at g;split at g
 .rename_i d' i;cases g;obtain⟨vs,b,f⟩:=Tq hs _ k i
  cases f with
  | cons h t=>
   cases t;exact⟨_,e _ b,h⟩
 .rename_i ds l i;cases g;obtain⟨vs,b,f⟩:=Tq hs _ k i;refine⟨_,e _ b,?_⟩
  have hl:vs.toArray.size≠1:=by
   intro h1;have j:ds.length=1:=by rw[<-f.length];simpa using h1
   match ds,j with
   | [d],_=>exact l d rfl
  rw[dif_neg hl];exact .tup vs ds f.length f.get
 .cases g
end
end Go.AL
namespace Go.AL
open Go
section
variable{P:Program}{G:GT}{c:Ctx}{H:U}{w:World}{env:gP}{a:Act}{N:Nat}
theorem VN(h:gE G c H w){v:Nat}{ob:Ob}(z:H[v]? = some ob)(O:ob.alive=true){L:Loc}(Q:c.ι v ob.gen=some L)(x:L.jO=false)
  {w':World} (F:w'.os=w.os/\w.drawn<=w'.drawn) (R:w'.tape=w.tape) (I:w'.output=w.output) (C:w'.heap.size=w.heap.size) (t:∀b,b≠L.b->w'.heap[b]? = w.heap[b]?) :
  gE G c (H.set v .dead) w'/\Step H.length c H w c (H.set v .dead) w':=by
 have s:=(ae.1 z).1;have B:lY c H v L:=⟨ob,z,O,Q⟩;have D:mh c H L.b:=⟨v,L,B,x,rfl⟩
 have q:∀u l,lY c (H.set v .dead) u l->u≠v/\lY c H u l:=by
  rintro u l ⟨o,f,y,hi⟩;rw[sM s]at f;split at f
  .cases f;cases y
  .rename_i n;exact⟨n,o,f,y,hi⟩
 have m:∀b,mh c (H.set v .dead) b->mh c H b:=λb ⟨u,l,hl,r⟩=>⟨u,l,(q u l hl).2,r⟩
 have hs:Step H.length c H w c (H.set v .dead) w':=
  ⟨F,R,I,by omega,rfl,λ_ h=>h,λ_ h=>.inl h,λb _ N=>t b (λe=>N (e▸D)),λ_ _ _ _ h=>h,λb i=>.inr (m b i)⟩
 have A:∀u d,gh c w u d->gh c w' u d:=λu d p=>p.qb h.toHeapOK hs
 refine⟨{
  inj:=λu E l K h1 P=>h.inj u E l K (q _ _ h1).2 (q _ _ P).2
  lt:=λb i=>by rw[C];exact h.lt b (m b i)
  nF:=λb i=>h.nF b (m b i)
  kO:=λb i=>by rw[C];exact h.kO b i
  out:=λu k M=>h.out u k (by simpa using M)
  mD:=λu o k f j=>by
   rw[sM s]at f;split at f
   .cases f;rcases j with j|⟨j,_⟩<;>cases j
   .exact h.mD u o k f j
  ob:=λu o f=>by
   rw[sM s]at f;split at f
   .cases f;simp[ia]
   .rename_i n;refine ia.keep (c:=c) (c':=c) rfl A (λl hl J p=>t _ λe=>n (h.inj u v l L ⟨o,f,p,hl⟩ B J x e)) (h.ob u o f)
  gl:=λg cs hg=>let ⟨a,b⟩:=h.gl g cs hg;⟨a,A _ _ b⟩
  rt:=h.rt },hs⟩
theorem ag7{fn:Func}{tmps:Array Value}{R:Ending->World->Prop}:∀ {ms:List Nat} {ds:List Deferred} {H H1:U} {w:World},sq c ms ds->gE G c H w->kill ms H=some H1 ->
  (∀w1,gE G c H1 w1->Step H.length c H w c H1 w1->H1.length=H.length->LeavesIn (FW none) 0 P fn tmps R [] .returning w1)->LeavesInM (FW none) 0 P fn tmps R ds .returning w:=by
 intro ms
 induction ms with
 | nil=>
  intro ds H H1 w e gf d k;cases e;cases d;exact k w gf (Step.refl _ _ _ _) rfl
 | cons v ms i=>
  intro ds H H1 w e gf d k
  cases e with
  | @cons _ _ ds L h1 h e=>
   simp only[kill]at d;split at d
   .rename_i g;have f:=gf.ob v _ g;simp only[Ob.gen]at f;rw[h1]at f;simp only[ia]at f;have a:=f.resolve_left (by simp[h]);have l:L.b<w.heap.size:=(aP.1 a).1;obtain⟨k1,k2⟩:=VN (w':={ w with heap:=w.heap.setIfInBounds L.b (.deferred none) }) gf g rfl h1 h ⟨rfl,Nat.le_refl _⟩ rfl rfl (by simp) (λb j=>by rw[cJ (cu j)]);refine⟨by simp,.inl ⟨L.b,{ w with heap:=w.heap.setIfInBounds L.b (.deferred none) },rfl,?_,?_⟩⟩
    .simp[Instr.takeDeferred,getObj,setObj,Sem.run,a]
    .refine i e k1 d λw1 q1 q2 q3=>k w1 q1 (k2.trans q2 (by simp)) (by rw[q3];simp)
   .cases d
theorem anM(gf:gE G c H w)(p:kT c w env a){o:Oper}{l:iL}(b:nN P G o=some l){v:Nat}{args:List D}(f:yieldOf env l=some (v,args)){rf:Nat}{O:Env}(K:H[v]? = some (.ib rf O .ready)) :
  ∃(L:Loc) (r:Loop) (vs:List Value),c.ι v 0=some L/\L.jO=false/\w.heap[L.b]? = some (.loop r)/\jC c w vs args /\
   (vs.length=r.params.size->(execOp a.eval o).run P w = .ok (.round L.b r.fn ((r.params.zip vs.toArray).foldl (λtmps (t,a)=>tmps.setIfInBounds t a) r.tmps) r.assign r.body) w):=by
 unfold yieldOf at f;split at f
 .rename_i s j;split at f
  .rename_i v' C;cases f;obtain⟨cl,m⟩:=Vv b rfl;have R:=b;unfold nN at b;simp only[m,aA,ag]at b;obtain⟨xs,B,b⟩:=b;have I:=A1 gf p cl.args.toList B
   have E:∃x X,cl.callee = .value x/\cX G x=some X/\X=s/\xs=j:=by
    split at b
    .split at b
     .exfalso;simp only[aD,aq]at b;split at b<;>cases b
     .cases b
    .rename_i x Q BI;simp only[ag,aD,aq]at b;obtain⟨X,hX,N⟩:=b;cases N;exact⟨x,s,BI,hX,rfl,rfl⟩
    .split at b
     .simp only[ag]at b;obtain⟨A,_,b⟩:=b;split at b
      .simp only[ag]at b;obtain⟨i,_,z,_,y,_,b⟩:=b;split at b
       .split at b
        .cases b
        .cases b
       .cases b
      .cases b
     .cases b
    .split at b
     .simp only[ag]at b;obtain⟨A,_,b⟩:=b;split at b
      .simp only[ag]at b;obtain⟨y,_,b⟩:=b;split at b
       .simp only[ag]at b;obtain⟨n,_,b⟩:=b;split at b
        .cases b
        .cases b
       .cases b
      .cases b
     .cases b
    .split at b
     .split at b
      .cases b
      .cases b
      .cases b
      .cases b
     .cases b
    .cases b
    .cases b
    .cases b
   obtain⟨x,X,BI,hX,rfl,rfl⟩:=E;have h:=iM gf p hX;rw[C]at h;generalize M:a.eval x=u at h
   cases h with
   | iT _ L q F=>
    have g:=gf.ob v _ K;simp only[Ob.gen]at g;rw[q]at g;simp only[ia]at g;obtain⟨_,r,d,_⟩:=g;refine⟨L,r,_,q,F,d,I,λJ=>?_⟩;have e:cl.args.map a.eval=(cl.args.toList.map a.eval).toArray:=by cases cl.args;simp
    have k:cl.args.size=r.params.size:=by simpa using J
    simp only[execOp,m,resolve,BI,M,Deferred.ofValue,Sem.run_bind,Sem.run_pure,Result.andThen_ok,invoke,Instr.yield,Instr.getLoop,getObj,Sem.run,d];simp[Sem.run,d,k,e]
  .cases f
 .cases f
theorem VT:∀(ps:List Tmp) (vs:List Value) (ds:List D) (tmps:Array Value) (a:Env),jC c w vs ds->(∀p∈ps,p<tmps.size)->(∀k,gh c w (tmps.getD k undef) (a.get k)) ->
  ∀k,gh c w (((ps.zip vs).foldl (λ(tmps:Array Value) (p:Tmp×Value)=>tmps.setIfInBounds p.1 p.2) tmps).getD k undef) ((uw ps ds a).get k)
 | [],vs,ds,tmps,a,_,_,h,k=>by simpa[uw]using h k
 | p::ps,[],ds,tmps,a,b,_,h,k=>by cases b;simpa[uw]using h k
 | p::ps,v::vs,ds,tmps,a,b,hp,h,k=>by
  cases b with
  | @cons _ d _ ds g b=>
   simp only[List.zip_cons_cons,b9,uw];refine VT ps vs ds (tmps.setIfInBounds p v) ((p,d)::a) b (λq f=>by simpa using hp q (by simp[f])) (λj=>?_) k;have i:p<tmps.size:=hp p (by simp);simp only[Env.wW];split
   .rename_i e;subst e;have:(tmps.setIfInBounds p v).getD p undef=v:=by simp[Array.getD,i]
    rw[this];exact g
   .rename_i e
    have:(tmps.setIfInBounds p v).getD j undef=tmps.getD j undef:=by simp only[cT,cJ e]
    rw[this];exact h j
theorem WK:∀(l:List (Tmp×Value)) (tmps:Array Value),(l.foldl (λ(tmps:Array Value) (p:Tmp×Value)=>tmps.setIfInBounds p.1 p.2) tmps).size=tmps.size
 | [],_=>rfl
 | p::l,tmps=>by simp only[b9];rw[WK l];simp
def xJ(G:GT)(N n:Nat)(iD:Bool)(c:Ctx)(H:U)(w:World)(R:Out->Prop)(Q:Exit->Act->World->Prop):Prop:=
 ∀(o:Out) (c':Ctx) (w':World) (a:Act),R o->o.st.iD=iD->n<=o.st.H.length->lq G N c' w' o.st a->Step n c H w c' o.st.H w'->Q o.ex a w'
theorem OM{s:St}(hs:lq G N c w s a){v rf:Nat}{e:Env}{st:qx}(f:s.H[v]? = some (.ib rf e st)){L:Loc}(j:c.ι v 0=some L) :
  ∃r:Loop,w.heap[L.b]? = some (.loop r)/\L.jO=false/\(∀k,gh c w (r.tmps.getD k undef) (e.get k))/\(∃M,G.rt rf=some (M,r.params,r.assign,r.body)/\M<=r.tmps.size)/\st.is r:=by
 have b:=hs.gf.ob v _ f;simp only[Ob.gen]at b;rw[j]at b;simp only[ia]at b;obtain⟨h1,r,i,h,d,g⟩:=b;rw[hs.gf.rt]at d;exact⟨r,i,h1,h,d,g⟩
theorem aal{s:St}(hs:lq G N c w s a){v rf:Nat}{d:Env}{st st':qx}(e:s.H[v]? = some (.ib rf d st)){L:Loc}(g:c.ι v 0=some L){r:Loop}(f:w.heap[L.b]? = some (.loop r))
  (b:Loop) (h1:b.tmps=r.tmps) (p:b.params=r.params) (o:b.assign=r.assign) (n:b.body=r.body) (m:st'.is b) :
  lq G N c { w with heap:=w.heap.setIfInBounds L.b (.loop b) } { s with H:=s.H.set v (.ib rf d st') } a/\Step s.H.length c s.H w c (s.H.set v (.ib rf d st')) { w with heap:=w.heap.setIfInBounds L.b (.loop b) } /\
   (setObj L.b (.loop b)).run P w = .ok () { w with heap:=w.heap.setIfInBounds L.b (.loop b) }:=by
 obtain⟨x,i,h,u,⟨M,t,q⟩,y⟩:=OM hs e g;rw[f]at i;cases i
 obtain⟨k1,k2⟩:=AQ hs.gf e rfl rfl (ob':=.ib rf d st') rfl g h (.loop b) (λw' l j=>by
  simp only[ia];refine⟨h,b,l,λk=>by rw[h1];exact j _ _ (u k),⟨M,?_,by rw[h1];exact q⟩,m⟩
  rw[hs.gf.rt,t,p,o,n])
 exact⟨⟨k1,λk=>(hs.env k).qb hs.gf.toHeapOK k2,hs.size,hs.marks⟩,k2,by simp[setObj,Sem.run,f]⟩
theorem agF(a:Option Nat)(l:Nat):(FW a).inRound l=FW (some l):=rfl
theorem aoR{s:St}{f:Option Nat}{n:Nat}{o:Oper}{W:iL}{next:Act->World->Prop}{Q:Exit->Act->World->Prop}(hs:lq G N c w s a)(Z:nN P G o=some W)
  (hd:tD N o.dst=true) {v rf:Nat} {args:List D} {e0:Env} (jW:yieldOf s.env.get W=some (v,args)) (B:s.H[v]? = some (.ib rf e0 .ready)) {M:Nat} {ps:Array Tmp} {ac bc:Code} (vz:G.rt rf=some (M,ps,ac,bc))
  (m:args.length=ps.size) (Ec:∀p∈ps.toList,p<M) {Ra Rb:Out->Prop}
  (hA:∀(f:Option Nat) (n:Nat) (Q:Exit->Act->World->Prop) (c:Ctx) (w:World) (a:Act),lq G M c w { env:=uw ps.toList args e0,H:=s.H,iD:=true } a ->
   xJ G M s.H.length true c s.H w Ra Q->ac.wpIn (FW f) n P Q a w)
  (hn:∀o,Ra o->o.stop=false/\∃g,o.st.H[v]? = some (.ib rf g .ready))
  (hB:∀s1 g,Ra (.norm s1)->s1.iD=true->s1.H[v]? = some (.ib rf g .ready)->∀(f:Option Nat) (n:Nat) (Q:Exit->Act->World->Prop) (c:Ctx) (w:World) (a:Act),lq G M c w { s1 with H:=s1.H.set v (.ib rf g .busy) } a ->
   xJ G M s1.H.length true c (s1.H.set v (.ib rf g .busy)) w Rb Q->bc.wpIn (FW f) n P Q a w)
  (hm:∀o,Rb o->∃e,o.st.H[v]? = some (.ib rf e .busy))
  (k:∀(q:Out) (e:Env) (c':Ctx) (w':World) (a':Act),Rb q->q.st.H[v]? = some (.ib rf e .busy)->s.H.length<=q.st.H.length->lq G N c' w' { s with env:=put s.env o.dst (.b !q.stop),H:=q.st.H.set v (.ib rf e q.AH) } a' ->
   Step s.H.length c s.H w c' (q.st.H.set v (.ib rf e q.AH)) w'->next a' w'):o.wpIn (FW f) n P a w next Q:=by
 obtain⟨L,r,vs,gp,iu,u,X,iz⟩:=anM hs.gf hs.env Z jW B;obtain⟨r0,x,_,a3,⟨M',a4,a6⟩,a5⟩:=OM hs B gp;rw[u]at x;cases x;rw[vz]at a4;cases a4;have Y:v<s.H.length:=(ae.1 B).1;have iA:vs.length=r.params.size:=by rw[X.length];exact m
 refine⟨λ_ _=>trivial,?_⟩;rw[Oper.semAt_plain (FW f) a.eval o (Ck Z),iz iA];refine⟨λh=>by simp[Fence.wide]at h,roundIn_of_wpIn (F:=FW f) trivial ?_⟩;rw[agF]
 have XH:(r.params.zip vs.toArray).foldl (λtmps (t,a)=>tmps.setIfInBounds t a) r.tmps=(r.params.toList.zip vs).foldl (λ(tmps:Array Value) (p:Tmp×Value)=>tmps.setIfInBounds p.1 p.2) r.tmps:=by rw[<-Array.foldl_toList];simp
 refine hA (some L.b) _ _ c w _ ⟨hs.gf,λj=>?_,?_,.nil⟩ ?_
 .show gh c w (Array.getD ((r.params.zip vs.toArray).foldl (λtmps (t,a)=>tmps.setIfInBounds t a) r.tmps) j undef) _;rw[XH];exact VT _ _ _ _ _ X (λp hp=>aO (Ec p hp) a6) a3 j
 .show M<=Array.size ((r.params.zip vs.toArray).foldl (λtmps (t,a)=>tmps.setIfInBounds t a) r.tmps);rw[XH,WK];exact a6
 .intro U c1 w1 x R J O V Ag;obtain⟨Yl,g,A⟩:=hn U R
  cases U with
  | exit=>cases Yl
  | ret=>cases Yl
  | norm s1=>
   have y:c1.ι v 0=some L:=Ag.old v 0 L Y gp;obtain⟨l,b1,b2,b3,_,b5⟩:=OM V A y;have E:l.state = .ready/\l.pending=none:=b5;obtain⟨k1,k2,k3⟩:=aal (P:=P) (st':=.busy) V A y b1 { l with state:=.busy } rfl rfl rfl rfl rfl;refine⟨{ w1 with heap:=w1.heap.setIfInBounds L.b (.loop { l with state:=.busy }) },?_,?_⟩
   .have hg:(Instr.getLoop L.b).run P w1 = .ok l w1:=by simp[Instr.getLoop,getObj,Sem.run,b1]
    simp only[Instr.beginRound,Sem.run_bind,hg,Result.andThen_ok,k3,E.1];simp
   .refine hB s1 g R J A (some L.b) _ _ c1 _ x k1 ?_;intro b c2 d h2 S h' Ha NY Ej;obtain⟨e,z⟩:=hm b S;have I:v<s1.H.length:=aO Y O;have Am:c2.ι v 0=some L:=Ej.old v 0 L I y;obtain⟨i,d1,d2,d3,_,d5⟩:=OM NY z Am
    have key:∀(j:Option Code),b.AH.is { i with state:=if j.isNone then .ready else .done,pending:=j }->j.isNone = !b.stop->∃v w',(Instr.endRound L.b j).run P d = .ok v w'/\next (a.put o.dst v) w':=by
     intro j hj C;obtain⟨e1,e2,e3⟩:=aal (P:=P) (st':=b.AH) NY z Am d1 { i with state:=if j.isNone then .ready else .done,pending:=j } rfl rfl rfl rfl hj;have hg:(Instr.getLoop L.b).run P d = .ok i d:=by simp[Instr.getLoop,getObj,Sem.run,d1]
     refine⟨.bool j.isNone,{ d with heap:=d.heap.setIfInBounds L.b (.loop { i with state:=if j.isNone then .ready else .done,pending:=j }) },?_,?_⟩
     .simp only[Instr.endRound,Sem.run_bind,hg,Result.andThen_ok,e3];rfl
     .have K:gh c2 { d with heap:=d.heap.setIfInBounds L.b (.loop { i with state:=if j.isNone then .ready else .done,pending:=j }) } (.bool j.isNone) (.b !b.stop):=by
       have:D.b (!b.stop)=D.val (.bool j.isNone):=by rw[C]
       rw[this];exact .val _
      have gw:Step s.H.length c s.H w c2 (b.st.H.set v (.ib rf e b.AH)) { d with heap:=d.heap.setIfInBounds L.b (.loop { i with state:=if j.isNone then .ready else .done,pending:=j }) }:=
       (Ag.trans (k2.trans (Ej.trans e2 Ha) (Nat.le_refl _)) O)
      refine k b e c2 _ _ S z (Nat.le_trans O Ha) (hs.next e1.gf gw hd K) gw
    cases b with
    | norm T=>exact key none ⟨rfl,rfl⟩ rfl
    | ret T=>exact key (some .ret) ⟨rfl,rfl⟩ rfl
    | exit id T=>exact key (some (.exit id)) ⟨rfl,rfl⟩ rfl
theorem adr{s:St}(hs:lq G N c w s a){rf:Nat}{ps:Array Tmp}{ac bc:Code}(l:G.rt rf=some (N,ps,ac,bc))(live:List Nat)(fn:FuncId) :
  ∃(c2:Ctx) (w2:World) (g f:Loc),(Instr.enterLoop fn a.tmps ps ac bc none).run P w = .ok (f.b,[{ target:=.collected g.b,args:=#[] }]) w2/\g.jO=false/\f.jO=false /\
   c2.ι s.H.length 0=some g/\c2.ι (s.H.length+1) 0=some f/\gE G c2 (s.H ++ [.ja,.ib rf (forget live s.env) .ready]) w2/\Step s.H.length c s.H w c2 (s.H ++ [.ja,.ib rf (forget live s.env) .ready]) w2:=by
 obtain⟨b,_,d⟩:=Ou hs.gf (nk.last s.H) (.deferred (some [])) .ja rfl rfl (λ_ e=>by simp only[ia];exact .inr e);simp only[Al.last]at b d;generalize o:c.set s.H.length 0 ⟨w.heap.size,0,0,false⟩=c1 at b d;have k:c1.ι s.H.length 0=some ⟨w.heap.size,0,0,false⟩:=by rw[<-o];exact Ctx.sN _ _ _ _
 generalize h:w.alloc (.deferred (some []))=w1 at b d;have p:w1.heap.size=w.heap.size+1:=by rw[<-h];simp
 have n:(s.H ++ [Ob.ja]).length=s.H.length+1:=by simp
 obtain⟨ng,_,i⟩:=Ou b (nk.last (s.H ++ [.ja])) (.loop { state:=.ready,pending:=none,fn:=fn,tmps:=a.tmps,params:=ps,assign:=ac,body:=bc,defers:=w.heap.size }) (.ib rf (forget live s.env) .ready) rfl rfl (λm e=>by
  simp only[ia];refine⟨trivial,_,e,λj=>m _ _ ((Dy hs.env live j).qb hs.gf.toHeapOK d),⟨N,?_,hs.size⟩,rfl,rfl⟩
  rw[<-l,<-b.rt];rfl)
 simp only[Al.last,n,aL,fH]at ng i;refine⟨_,_,⟨w.heap.size,0,0,false⟩,⟨w1.heap.size,0,0,false⟩,?_,rfl,rfl,?_,Ctx.sN _ _ _ _,ng,d.trans i (by omega)⟩
 .subst h;simp[Instr.enterLoop]
 .rw[Ctx.wz _ _ (by omega)];exact k
theorem aoP{s:St}{n:Nat}{Q:Exit->Act->World->Prop}(hs:lq G N c w s a){g:Operand}{X:X}(hx:cX G g=some X){f:FuncId}{first cap:List D}(rk:ev s.env.get X = .fn (.func f) first cap)
  (kL:s5 P f=true) {rf:Nat} {ps:Array Tmp} {ac bc:Code} (vz:G.rt rf=some (N,ps,ac,bc)) {live:List Nat} {R1:D->U->Prop} {R:Out->Prop}
  (jD:vc P G f (first ++ [.iT (s.H.length+1)]++cap) (s.H ++ [.ja,.ib rf (forget live s.env) .ready]) R1)
  (k:∀d H',R1 d H'->∃env st o,H'[s.H.length+1]? = some (.ib rf env st)/\AA { s with H:=H'.set (s.H.length+1) .dead,marks:=s.H.length::s.marks } st=some o/\R o)
  (V:xJ G N s.H.length s.iD c s.H w R Q):(Code.rangeFunc g ps ac bc).wpIn (FW none) n P Q a w:=by
 refine wpIn_rangeFunc λfn _=>?_;obtain⟨c2,w2,E,l,a0,oG,pC,O,F,ng,Yj⟩:=adr (P:=P) hs vz live fn;have Yb:∀u d,gh c w u d->gh c2 w2 u d:=λu d hd=>hd.qb hs.gf.toHeapOK Yj;have T:=iM hs.gf hs.env hx;rw[rk]at T;generalize hu:a.eval g=u at T
 cases T with
 | fn _ fs cs _ _ q1 q2 q3 q4=>
  have a':gh c2 w2 (.func (.yield l.b) #[] #[]) (.iT (s.H.length+1)):=.iT _ l F pC
  have il:jC c2 w2 (fs ++ [Value.func (.yield l.b) #[] #[]]++cs) (first ++ [.iT (s.H.length+1)]++cap):=
   ((jC.Iq q1 λi v d h1 C=>Yb _ _ (q3 i v d h1 C)).append (.cons a' .nil)).append (jC.Iq q2 λi v d h1 C=>Yb _ _ (q4 i v d h1 C))
  have Eh:(resolve a.eval (rangeCall g l.b) 0).run P w2 = .ok { target:=.fn (.func f) cs.toArray,args:=fs.toArray ++ #[Value.func (.yield l.b) #[] #[]] } w2:=by simp[resolve,hu,Deferred.ofValue];rfl
  have B:(invoke (.fn (.func f) cs.toArray) (fs.toArray ++ #[Value.func (.yield l.b) #[] #[]])).run P w2 = .ok (.enter f (fs ++ [Value.func (.yield l.b) #[] #[]]++cs).toArray) w2:=by have C:=O1 (P:=P) kL (fs ++ [Value.func (.yield l.b) #[] #[]]++cs).toArray w2;simpa[invoke]using C
  have NF:=jD c2 w2 _ ng il
  have kQ:CallsIn (FW none) (n-1) P f (fs ++ [Value.func (.yield l.b) #[] #[]]++cs).toArray w2 (rangePost (FW none) n P l.b Q { a with defers:=[{ target:=.collected E.b,args:=#[] }]++a.defers }):=by
   refine F7.2 (NF.mono ?_);rintro e m ⟨v,t,d,K,rfl,hR,r,Hr,_,Ej⟩;obtain⟨env,st,q,kY,A,Q3⟩:=k d K hR;have M:(s.H ++ [Ob.ja,Ob.ib rf (forget live s.env) .ready]).length=s.H.length+2:=by simp
   have O:t.ι s.H.length 0=some E:=Ej.old _ 0 E (by rw[M];omega) O;have F:t.ι (s.H.length+1) 0=some l:=Ej.old _ 0 l (by rw[M];omega) F;have I:=Hr.ob _ _ kY;simp only[Ob.gen]at I;rw[F]at I;simp only[ia]at I;obtain⟨_,p,S,_,_,z⟩:=I;have e1:l.b<m.heap.size:=(aP.1 S).1;obtain⟨m1,m2⟩:=VN (w':={ m with heap:=m.heap.setIfInBounds l.b (.loop { p with state:=.exhausted }) }) Hr kY rfl F pC ⟨rfl,Nat.le_refl _⟩ rfl rfl (by simp) (λb hb=>by rw[cJ (cu hb)])
   have y:Step s.H.length c s.H w t (K.set (s.H.length+1) .dead) { m with heap:=m.heap.setIfInBounds l.b (.loop { p with state:=.exhausted }) }:=
    Yj.trans (Ej.trans m2 r) (by rw[M];omega)
   have J:lq G N t { m with heap:=m.heap.setIfInBounds l.b (.loop { p with state:=.exhausted }) } { s with H:=K.set (s.H.length+1) .dead,marks:=s.H.length::s.marks } { a with defers:=[{ target:=.collected E.b,args:=#[] }]++a.defers }:=by
    refine⟨m1,λj=>(hs.env j).qb hs.gf.toHeapOK y,hs.size,.cons E O oG (hs.marks.mono λv L h=>y.old v 0 L ?_ h)⟩;rcases bH v s.H.length with Z|Z
    .exact Z
    .rw[hs.gf.out v 0 Z]at h;cases h
   have X3:p.state≠.busy:=by
    cases st with
    | busy=>cases A
    | ready=>rw[z.1];decide
    | A7=>rw[z.1];decide
    | zA=>rw[z.1];decide
   have XF:(Instr.endLoop l.b).run P m = .ok p.pending { m with heap:=m.heap.setIfInBounds l.b (.loop { p with state:=.exhausted }) }:=by
    have hg:(Instr.getLoop l.b).run P m = .ok p m:=by have:m.heap[l.b]? = some (.loop p):=S;simp[Instr.getLoop,getObj,Sem.run,this]
    have tc:(setObj l.b (.loop { p with state:=.exhausted })).run P m = .ok () { m with heap:=m.heap.setIfInBounds l.b (.loop { p with state:=.exhausted }) }:=by have:m.heap[l.b]? = some (.loop p):=S;simp[setObj,Sem.run,this]
    have Y:(p.state == .busy)=false:=by generalize p.state=x at X3;cases x<;>first|rfl|exact absurd rfl X3
    simp only[Instr.endLoop,Sem.run_bind,hg,Result.andThen_ok,Y,tc];simp[tc]
   generalize ({ m with heap:=m.heap.setIfInBounds l.b (.loop { p with state:=.exhausted }) }:World)=W at J y XF;refine⟨p.pending,W,XF,?_⟩
   have RC:s.H.length<=(K.set (s.H.length+1) .dead).length:=by rw[M]at r;simp;omega
   cases st with
   | busy=>cases A
   | ready=>
    cases A;rw[z.2];exact V _ t _ _ Q3 rfl RC J y
   | A7=>
    cases A;rw[z.2];exact wpIn_ret (V _ t _ _ Q3 rfl RC J y)
   | zA id=>
    cases A;rw[z.2];exact wpIn_exit (V _ t _ _ Q3 rfl RC J y)
  exact⟨l.b,_,w2,_,w2,f,_,w2,a0,Eh,λ_ _=>trivial,B,λh=>by simp[Fence.wide]at h,kQ⟩
