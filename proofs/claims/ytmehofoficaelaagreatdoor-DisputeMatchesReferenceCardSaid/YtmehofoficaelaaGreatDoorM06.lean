/- Part 6 of DisputeMatchesReference. -/
import Derived.Test.YtmehofoficaelaaGreatDoorM05
import Derived.Shelf.SlSortCmp.NoneTotal
set_option linter.all false
open Option renaming some→aE,none→b4
open Nat renaming le_refl→bb,div_lt_of_lt_mul→dr,mod_lt→ek
open List renaming length_map→bs,getElem?_eq_getElem→di,range→dx,Perm→eh,length→List.l
open Bool renaming true→cj,false→cp
namespace Go.AL
open Go
abbrev room(k:Nat):gg:=List.replicate k .mF
section
variable{f:il}{H:gg}{r:Nat}
theorem Oz(v:Nat)(o:Ob)(a:o≠.mF):(H++room r)[v]? = aE o↔H[v]? = aE o:=jZ
theorem US(v:Nat):rowsOf (H++room r) v=rowsOf H v:=by
 unfold rowsOf
 cases h:H[v]? with
 | none=>
  cases a:(H++room r)[v]? with
  | none=>rfl
  | some o=>
   cases o<;>first|rfl|skip
   rw[Oz v _ gf]at a;rw[h]at a;cases a
 | some o=>
  have:(H++room r)[v]? = aE o:=jZ;rw[this]
theorem BL(v g:Nat):rowAt (H++room r) v g=rowAt H v g:=by rw[BM,BM,US]
theorem Ua(v:Nat):mq (H++room r) v=mq H v:=by
 unfold mq
 cases h:H[v]? with
 | none=>
  cases a:(H++room r)[v]? with
  | none=>rfl
  | some o=>
   cases o<;>first|rfl|skip
   rw[Oz v _ gf]at a;rw[h]at a;cases a
 | some o=>
  have:(H++room r)[v]? = aE o:=jZ;rw[this]
theorem Vc(sz:Nat)(d:D):lN sz (H++room r) d=lN sz H d:=by
 cases d<;>first|rfl|skip
 simp only[lN,BL]
theorem adv(n:Nat)(op:jh):ie f (H++room r) n op=ie f H n op:=by
 cases op<;>simp only[ie]<;>first|rfl|skip
 case ld1=>simp only[yC,BL]
 case ldN=>simp only[xH,BL]
 case st1=>simp only[DW,BL]
 case stN=>simp only[DX,BL]
 case lookup=>simp only[Dr,Ua]
 case mapUpd=>simp only[Bu,Ua]
 case len=>simp only[oa,Ua]
 case b2s=>simp only[Ez,Vc]
 case app=>simp only[uj,Vc,BL]
 case copy=>simp only[AI,Vc,BL]
 case slcArr=>simp only[BQ,BL]
theorem JJ(k:Nat)(d:D):iO (H++room r) k d=iO H k d/\gA (λ_=>b4) (H++room r) k d=gA (λ_=>b4) H k d:=
 JI (H1:=H) (H2:=H++room r) k d λv _=>(US v).symm
theorem Ow(op:jh):ik f (H++room r) op=ik f H op:=by
 have key:∀args:List D,args.map (iO (H++room r) 40)=args.map (iO H 40):=λargs=>aw λd _=>(JJ 40 d).1;cases op<;>first|rfl|skip
 case call g args=>simp only[ik,key]
 case callN g args=>simp only[ik,key]
 case callv g args=>simp only[ik,key]
 case len k x=>cases k<;>rfl
theorem acq{v g:Nat}{x:TypeId×List D}(h:rowAt H v g=aE x):v<H.l:=(ae.1 (JN h)).1
theorem aiY{v:Nat}{x:KK×List (Value×D)}(h:mq H v=aE x):v<H.l:=(ae.1 (vu h)).1
def Safe(H:gg):Dl->Prop
 | .no=>True
 | .cells v o xs=>∃t g cs,H[v]? = aE (.row t g cs)/\o+xs.l<=cs.l
 | .obj v _=>v<H.l
 | .new _=>True
theorem adw{op:jh}{n:Nat}{d:D}{δ:Dl}(h:ie f H n op=aE (d,δ)):Safe H δ:=by
 have hl:∀ {o:Option D},lift o=aE (d,δ)->Safe H δ:=λh=>by rw[(nk h).2];trivial
 cases op<;>simp only[ie]at h<;>first|exact hl h|(cases h;done)|skip
 case box=>unfold uk at h;split at h<;>cases h;trivial
 case alloc=>cases h;trivial
 case mkmap=>cases h;trivial
 case buildSl=>
  unfold AA at h;split at h
  .split at h<;>cases h;trivial
  .cases h
 case mksl=>
  unfold FX at h;split at h
  .split at h<;>cases h;trivial
  .cases h
 case st1=>
  unfold DW at h;split at h
  .split at h
   .rename_i v g o _ t cs a;split at h
    .rename_i c;cases h;exact⟨_,_,_,JN a,gO⟩
    .cases h
   .cases h
  .cases h
 case stN=>
  unfold DX at h;split at h
  .split at h
   .rename_i v g o xs _ _ t cs a;split at h
    .rename_i c;cases h;exact⟨_,_,_,JN a,gO⟩
    .cases h
   .cases h
  .cases h
 case mapUpd=>
  unfold Bu at h;split at h
  .split at h
   .rename_i b;split at h
    .cases h;exact aiY b
    .cases h
   .cases h
  .cases h
 case app=>
  unfold uj at h;split at h
  .split at h
   .split at h
    .rename_i a;split at h
     .cases h;exact acq a
     .cases h
    .cases h
   .split at h
    .cases h;trivial
    .cases h
   .split at h
    .cases h;trivial
    .split at h
     .cases h;trivial
     .cases h
   .cases h
  .cases h
 case copy=>
  unfold AI at h;split at h
  .split at h
   .rename_i a;split at h
    .cases h;exact acq a
    .cases h
   .cases h
  .cases h;trivial
  .cases h
theorem QZ{δ:Dl}(hs:Safe H δ)(k:Nat)(c:(δ.app H (Al.last H)).l<=k) :
  mh H.l δ (H++room (k-H.l))=δ.app H (Al.last H)++room (k-(δ.app H (Al.last H)).l)/\Fits H.l δ (H++room (k-H.l)):=by
 cases δ with
 | no=>exact⟨rfl,trivial⟩
 | cells v o xs=>
  obtain⟨t,g,cs,h1,d⟩:=hs;have b:=(ae.1 h1).1;have a:(H++room (k-H.l))[v]? = aE (.row t g cs):=by rw[ah b];exact h1
  refine⟨?_,t,g,cs,a,d⟩;simp only[mh,Dl.app,a,h1,az];rw[aT _ _ b]
 | obj v ob=>
  refine⟨?_,trivial⟩;simp only[mh,Dl.app,az];rw[aT _ _ hs]
 | new ob=>
  simp only[Dl.app,Al.last,ar,aL,dh,aV]at c ⊢;have e:k-H.l=(k-(H.l+1))+1:=U;refine⟨?_,?_⟩
  .simp only[mh,Dl.app,Al.mF];rw[e,room,bw,dF _ _ (bb _)];simp[aN]
  .show(H++room (k-H.l))[H.l]? = aE .mF;rw[e,ak (bb _)];simp[bw]
end
section
variable{G:GT}{c:Ctx}{w:World}{H:gg}
theorem PC{r v:Nat}{L:Loc}:mJ c (H++room r) v L↔mJ c H v L:=by
 constructor
 .rintro⟨o,b,a,d⟩;rw[Oz v o (by rintro rfl;cases a)]at b;exact⟨o,b,a,d⟩
 .rintro⟨o,b,a,d⟩;exact⟨o,(Oz v o (by rintro rfl;cases a)).2 b,a,d⟩
theorem Uv{r b:Nat}:mZ c (H++room r) b↔mZ c H b:=by
 constructor
 .rintro⟨v,L,hl,r⟩;exact⟨v,L,PC.1 hl,r⟩
 .rintro⟨v,L,hl,r⟩;exact⟨v,L,PC.2 hl,r⟩
theorem acn(h:gL G c H w)(r:Nat):gL G c (H++room r) w where
 inj v v' L L' h1 h2:=h.inj v v' L L' (PC.1 h1) (PC.1 h2)
 lt b hb:=h.lt b (Uv.1 hb)
 nF b hb:=h.nF b (Uv.1 hb)
 lF:=h.lF
 out v k a:=h.out v k (by simp at a;omega)
 nC v o k ho hk:=by
  rcases bJ v H.l with a|a
  .rw[ah a]at ho;exact h.nC v o k ho hk
  .exact h.out v k a
 ob v o ho:=by
  rcases bJ v H.l with a|a
  .rw[ah a]at ho;exact h.ob v o ho
  .rw[ak a,fE]at ho;split at ho
   .cases ho;simp only[iy];exact h.out v _ a
   .cases ho
 gl:=h.gl
 rt:=h.rt
theorem aco(r n:Nat):Step n c H w c (H++room r) w:=
 ⟨⟨rfl,bb _⟩,rfl,rfl,bb _,rfl,λ_ h=>h,λ_ h=>.inl h,λ_ _ _=>rfl,λ_ _ _ _ h=>h,λ_ h=>.inr (Uv.1 h)⟩
end
end Go.AL
namespace Go.AL
open Go Go.Proofs Go.Shelf Go.RowKit Go.Lib Go.Sort
structure yU(P:Program)(f:FuncId)(sz:Nat):Prop where
 pos:0<sz
 full:∀(α:Type) [Inhabited α] (enc:α->List Value) (_:∀x,(enc x).l=sz) (_:∀x,∀v∈enc x,v.oneCell'=cj) (cf:α->α->Int) (_:SWO (ltOf cf)) (g mz off cap:Nat) (d:Array α) (w:World)
  (_:∀args w,(callFunc g args).run P w = .ok (.enter g args) w) (_:CmpLays P g #[] enc sz cf mz off d.size w) (_:HoldsK enc sz w mz off d) (_:mz<w.heap.size) (_:d.size<4611686018427387904),
  Calls P f #[.slice (aE ⟨mz,off,b4⟩) d.size cap,.func (.func g) #[] #[]] w λe w'=>e = .returned (.tuple #[])/\∃d' n os,PermIn 0 d.size d d'/\SortedIn (ltOf cf) 0 d.size d'/\w'=sortWorldK enc sz w mz off n d' os
 none:∀(p:Option Addr) (cap:Nat) (fv:Value) (w:World),Calls P f #[.slice p 0 cap,fv] w λe w'=>e = .returned (.tuple #[])/\w'=w
def yU.of{P:Program}{ρ:Ren}(L:SlLaysF0.n6 P ρ){k:Nat}(b:0<k)(c:∀w,(isAgg (ρ.t 24)).run P w = .ok cj w)(a:∀w,(Go.sizeOf (ρ.t 24)).run P w = .ok k w):yU P (ρ.f 6) k where
 pos:=b
 full α _ enc h1 h2 cf hO g mz off cap d w eg hc hH hb hs:=AnyQ.slices_SortFunc L k c a enc h1 h2 cf hO g #[] mz off cap d w eg hc hH hb hs
 none:=AnyF.slices_SortFunc_none L
section
variable{P:Program}{G:GT}{c:Ctx}{H:gg}{w:World}{α:Type}
structure El(c:Ctx)(w:World)(fc:α->List D)(l:List α) where
 vs:List Value
 a:α
 mem:a∈l
 cells:Cells (c.data c.F) w vs (fc a)
theorem acH{a:Type}[Inhabited a](enc:a->List Value)(k mz off m:Nat)(e:Array a)(os:Array Obj){b:Nat}(d:b<w.heap.size)(c:b≠mz):(sortWorldK enc k w mz off m e os).heap[b]? = w.heap[b]? := by simp only[sortWorldK,grow,putRowK,putRow,mapBlock,Go.Sort.ahead];rw[cO (by simpa using d),bk,if_neg (cH c)]
theorem aeK(h:gL G c H w){W:World}(hs:w.heap.size<=W.heap.size)(d:∀b,c.F b->W.heap[b]? = w.heap[b]?):gL G (c.data c.F) [] W where
 inj v v' L L' h1:=by obtain⟨o,a,_⟩:=h1;simp at a
 lt b hb:=by obtain⟨v,L,⟨o,a,_⟩,_⟩:=hb;simp at a
 nF b hb:=by obtain⟨v,L,⟨o,a,_⟩,_⟩:=hb;simp at a
 lF b hb:=aR (h.lF b hb) hs
 out _ _ _:=rfl
 nC _ _ _ _ _:=rfl
 ob v o a:=by simp at a
 gl g cs hg:=by obtain⟨h1,f⟩:=(N0 h).gl g cs hg;exact⟨h1,gq.carry (c:=c.data c.F) (c':=c.data c.F) (λ_ _ _ h=>h) (λ_ h=>h) (λb o e=>Hy (d b e)) f⟩
 rt:=h.rt
theorem aqj{W w':World}(h:kN W w'):∃q a,w'=grow (W.drewN q) a:=by
 obtain⟨⟨h1,n⟩,g,f,m,e⟩:=h;refine⟨w'.drawn-W.drawn,w'.heap.extract W.heap.size w'.heap.size,?_⟩
 cases w' with
 | mk l tp p o k=>
  cases W with
  | mk b c j o' d=>
   simp only at *;subst h1 g f;simp only[grow,World.drewN];congr 1
   .apply Array.ext_getElem?;intro i;rcases bJ i b.size with hi|hi
    .rw[cO hi,e i hi]
    .rw[Array.getElem?_append_right hi,Array.getElem?_extract];split
     .congr 1;omega
     .exact eA U
   .omega
theorem j'.two{c:Ctx}{w:World}{vs:List Value}{d e:D}(h:j' c w vs [d,e]):∃u v,vs = [u,v]/\gq c w u d/\gq c w v e:=by
 cases h with
 | cons h1 h=>cases h with
  | cons a h=>cases h;exact⟨_,_,rfl,h1,a⟩
theorem apT{f g:FuncId}{sz:Nat}(hS:yU P f sz){x:D}{R:D->gg->Prop}(k:R (.tup []) H):wR P G f [.gp,x] H R:=by intro c w vs gu b;obtain⟨u,v,rfl,h1,h⟩:=j'.two b;cases h1;refine(hS.none b4 0 v w).mono ?_;rintro e w' ⟨rfl,rfl⟩;exact⟨_,c,_,H,rfl,k,bb _,gu,.tup [] [] rfl (λi v d a=>by simp at a),Step.refl _ _ _ _⟩
theorem apU{f g:FuncId}{sz:Nat}(hS:yU P f sz)(hg:uu P g=cj)(fc:α->List D)(l:List α)(hl:∀a∈l,(fc a).l=sz)(gP:∀a∈l,gN (fc a)=cj)(h0:0<l.l)(yi:l.l<4611686018427387904)
  (q:α->α->Int) (FP:∀x∈l,¬q x x<0) (tr:∀x∈l,∀y∈l,∀z∈l,q x y<0->q y z<0->q x z<0) (nt:∀x∈l,∀y∈l,∀z∈l,¬q x y<0->¬q y z<0->¬q x z<0)
  (hc:∀x∈l,∀y∈l,wR P G g [.agg (fc x),.agg (fc y)] [] λd _=>d = .i (q x y)) {v gen:Nat} {t:TypeId} (Q:H[v]? = aE (.row t gen (l.map fc).flatten)) {R:D->gg->Prop}
  (k:∀l':List α,l'.Perm l->l'.Pairwise (λx y=>¬q y x<0)->R (.tup []) (H.set v (.row t gen (l'.map fc).flatten))) :
  wR P G f [.gh v gen sz 0 l.l,.fn (.func g) [] []] H R:=by
 have O:=hS.pos;intro c w vs gu A;obtain⟨u,v1,rfl,h1,h2⟩:=j'.two A;clear A;have hn:l.l=l.l:=rfl;revert hn;generalize hN:l.l=N at h1;intro hn
 have oX:v1 = .func (.func g) #[] #[]:=by
  cases h2 with
  | fn _ fs cs df dc jL iZ _ _=>
   have p:fs = []:=aC.1 jL;have I:cs = []:=aC.1 iZ;subst p;subst I;rfl
 subst oX;clear h2
 cases h1 with
 | nq=>omega
 | gh _ _ _ _ _ cap L gC iG kI jv nG=>
 have X:=gu.ob v _ Q;simp only[Ob.gen]at X;rw[gC]at X;simp only[iy,iG]at X;obtain⟨arr,M,IZ,E,ql⟩:=X
 have jE:(l.map fc).flatten.l=N*sz:=by rw[Ot sz _ (by simpa using hl),bs,hN]
 rw[jE]at E;have yn:mZ c H L.b:=⟨v,L,⟨_,Q,rfl,gC⟩,iG,rfl⟩;have S:=gu.lt _ yn
 have C:∀i,i<N->L.base+i*sz+sz<=arr.size:=λi hi=>by have:(i+1)*sz<=N*sz:=bE _ hi;rw[cN]at this;omega
 let mk:Fin l.l->El c w fc l:=λi=>{
  vs:=(arr.toList.drop (L.base+i.val*sz)).take sz
  a:=l[i.val]
  mem:=bU _
  cells:=by
   have hi:i.val<N:=by rw[<-hN];exact i.isLt
   have hm:=C _ hi;have Bb:(fc l[i.val]).l=sz:=hl _ (bU _)
   have jU:∀r,r<sz->∃y d,((arr.toList.drop (L.base+i.val*sz)).take sz)[r]? = aE y/\(fc l[i.val])[r]? = aE d/\y.oneCell'=cj/\gq c w y d:=λr A=>by
    have J:(l.map fc).flatten[i.val*sz+r]? = (fc l[i.val])[r]? := by rw[Oq sz O _ (by simpa using hl),show(i.val*sz+r) / sz=i.val from by rw[ea,Nat.mul_add_div O,Nat.div_eq_of_lt A];rfl,show(i.val*sz+r) % sz=r from by rw[ea,Nat.mul_add_mod,fj A]];simp
    have s:(fc l[i.val])[r]? = aE (fc l[i.val])[r]:=di U;obtain⟨y,vh,I1,a1⟩:=ql (i.val*sz+r) _ (J.trans s);refine⟨y,_,?_,s,I1,a1⟩;rw[aJ,if_pos A,aM,bH,<-vh];congr 1;omega
   have qo:((arr.toList.drop (L.base+i.val*sz)).take sz).l=sz:=gO;refine⟨by rw[qo,Bb],λy B=>?_,λr y d B J=>?_⟩
   .obtain⟨r,A⟩:=aH.1 B;have Z:r<sz:=by have:=(ae.1 A).1;omega
    obtain⟨y',d,p,_,e3,_⟩:=jU r Z;rw[A]at p;cases p;exact e3
   .have Z:r<sz:=by have:=(ae.1 B).1;omega
    obtain⟨y',d',p,I,_,e4⟩:=jU r Z;rw[B]at p;cases p;rw[J]at I;cases I
    exact gq.closed (c:=c) (c':=c.data c.F) (λb F=>F) e4 (za (gP _ (bU _)) J) }
 haveI:Inhabited (El c w fc l):=⟨mk ⟨0,h0⟩⟩
 let enc:El c w fc l->List Value:=λe=>e.vs
 let d:Array (El c w fc l):=Array.ofFn mk
 have K:d.size=N:=by simp[d,hN]
 have iX:∀x:El c w fc l,(enc x).l=sz:=λx=>by rw[show enc x=x.vs from rfl,x.cells.len,hl _ x.mem]
 have IP:∀x:El c w fc l,∀y∈enc x,y.oneCell'=true:=λx y B=>x.cells.one y B
 have a4:d.toList.map (λe=>e.a)=l:=by
  apply bY;intro i;simp only[d,ax,bH,Array.getElem?_ofFn]
  by_cases hi:i<l.l
  .simp[hi,mk]
  .simp[hi]
 have hO:SWO (ltOf λx y:El c w fc l=>q x.a y.a):=by
  refine⟨λx=>?_,λx y z=>?_,λx y z=>?_⟩
  .simpa[ltOf]using FP x.a x.mem
  .simpa[ltOf]using tr x.a x.mem y.a y.mem z.a z.mem
  .simpa[ltOf]using nt x.a x.mem y.a y.mem z.a z.mem
 have zm:∀j,w.cell? ⟨L.b,j,b4⟩=arr[j]? := λj=>by simp[World.cell?,M]
 have hH:HoldsK enc sz w L.b (L.base+0*sz) d:=by
  intro j hj;have T:j<N*sz:=by simpa[K]using hj
  have hq:j / sz<N:=dr (by rw[ea];exact T);have A:j % sz<sz:=ek _ O;have hm:=C _ hq;have IC:j / sz*sz+j % sz=j:=by rw[ea];exact Nat.div_add_mod j sz
  rw[get_flatK _ _ _ _ (by rw[K];exact T)];refine⟨?_,?_⟩
  .have p:d[j / sz]! = mk ⟨j / sz,U⟩:=by rw[getElem!_pos d (j / sz) U];simp[d]
   rw[zm,p];show _=aE (id ((arr.toList.drop (L.base+j / sz*sz)).take sz)[j % sz]!);rw[getElem!_pos _ (j % sz) gO,List.getElem_take,List.getElem_drop,Array.getElem_toList,cE U];simp only[id];congr 2;omega
  .simp[World.frozen?,M]
 have b':CmpLays P g #[] enc sz (λx y:El c w fc l=>q x.a y.a) L.b (L.base+0*sz) d.size w:=by
  intro m os dk _ x y;have hW:∀b,c.F b->(sortWorldK enc sz w L.b (L.base+0*sz) m dk os).heap[b]? = w.heap[b]? := λb F=>acH _ _ _ _ _ _ _ (gu.lF b F) λe=>gu.nF _ yn (e▸F);have tS:gL G (c.data c.F) [] (sortWorldK enc sz w L.b (L.base+0*sz) m dk os):=aeK gu (size_sortWorldK_c _ _ _ _ _ _ _ _) hW
  have vf:∀x:El c w fc l,gq (c.data c.F) (sortWorldK enc sz w L.b (L.base+0*sz) m dk os) (.agg (enc x).toArray) (.agg (fc x.a)):=λx=>
   .agg _ _ x.cells.len x.cells.one λi y d B J=>gq.carry (c:=c.data c.F) (c':=c.data c.F) (λ_ _ _ h=>h) (λ_ h=>h) (λb o hF=>Hy (hW b hF)) (x.cells.rep i y d B J)
  have:=hc x.a x.mem y.a y.mem _ _ _ tS (.cons (vf x) (.cons (vf y) .nil));rw[(gf:(#[Value.agg (enc x).toArray,Value.agg (enc y).toArray] ++ #[]:Array Value) = [Value.agg (enc x).toArray,Value.agg (enc y).toArray].toArray)];refine Calls.mono this ?_;rintro e w' ⟨u,c',d',H',he,rfl,_,_,hu,gD⟩;cases hu;exact⟨he,aqj (CD gD)⟩
 have eg:∀args w,(callFunc g args).run P w = .ok (.enter g args) w:=Qm hg;have kc:=hS.full (El c w fc l) enc iX IP _ hO g L.b (L.base+0*sz) cap d w eg b' hH S U;rw[K]at kc;refine kc.mono ?_;rintro e w' ⟨rfl,d',n,os,⟨tT,_,pC⟩,b0,rfl⟩;have W:d'.size=N:=by rw[tT,K]
 have b1:(d'.toList.map λe=>e.a).Perm l:=by
  refine eh.trans (eh.map _ ?_) (eh.of_eq a4);have p:(d'.extract 0 N).toList=d'.toList:=by rw[<-W];simp
  have I:(d.extract 0 N).toList=d.toList:=by rw[<-K];simp
  rw[p,I]at pC;exact pC
 have a2:(d'.toList.map λe=>e.a).Pairwise λx y=>¬q y x<0:=by
  rw[eo,bz];intro i j hi hj C3;have V:i<d'.size:=by simpa using hi
  have T:j<d'.size:=by simpa using hj
  have:=b0 i j (ew _) C3 U;rw[getElem!_pos d' j T,getElem!_pos d' i V]at this;simpa[ltOf]using this
 have C6:((d'.toList.map λe=>e.a).map fc).flatten.l=N*sz:=by
  rw[Ot sz _ (λx s=>?_)]
  .simp[W]
  .simp only[au]at s;obtain⟨a,⟨e,_,rfl⟩,rfl⟩:=s;exact hl _ e.mem
 have hF:(flatK enc sz d').size=N*sz:=by rw[size_flatK,W]
 have h8:N*sz<=arr.size-L.base:=U
 obtain⟨w1,w2⟩:=Gw gu Q gC iG M (putCells id (L.base+0*sz) (flatK enc sz d') arr) (by simp[putCells]) IZ ((d'.toList.map λe=>e.a).map fc).flatten (by rw[C6];exact E) (λi dd hi=>by
  have V:i<N*sz:=by rw[<-C6];exact(ae.1 hi).1
  have hq:i / sz<N:=dr (by rw[ea];exact V);have A:i % sz<sz:=ek _ O;have s:=d'[i / sz].cells
  rw[Oq sz O _ (λx s=>by
   simp only[au]at s;obtain⟨a,⟨e,_,rfl⟩,rfl⟩:=s
   exact hl _ e.mem)]at hi
  have p:(List.map fc (List.map (λe=>e.a) d'.toList))[i / sz]? = aE (fc d'[i / sz].a):=by simp only[ax,bH];rw[cE U];rfl
  rw[p,Option.bind_some]at hi;have js:(d'[i / sz].vs).l=sz:=iX d'[i / sz];have I:(d'[i / sz].vs)[i % sz]? = aE (d'[i / sz].vs)[i % sz]:=di U;refine⟨(d'[i / sz].vs)[i % sz],?_,s.one _ (bU _),gq.closed (c:=c.data c.F) (c':=c) (λb F=>F) (s.rep _ _ _ I hi) (za (gP _ d'[i / sz].mem) hi)⟩;rw[putCells,dH,cE U,aK,if_pos ⟨U,by rw[hF];omega⟩];rw[(U:L.base+i-(L.base+0*sz)=i),get_flatK _ _ _ _ (by rw[W];exact V),getElem!_pos d' (i / sz) U];show aE (id (d'[i / sz].vs)[i % sz]!)=_
  rw[getElem!_pos _ (i % sz) U];rfl)
 have A9:kN (w.setRow L.b (putCells id (L.base+0*sz) (flatK enc sz d') arr)) (sortWorldK enc sz w L.b (L.base+0*sz) n d' os):=by
  refine⟨⟨rfl,fq _ _⟩,rfl,rfl,?_,λb F=>?_⟩
  .simp[World.setRow,sortWorldK,grow,putRowK,putRow,mapBlock,Go.Sort.ahead]
  .have uB:b<w.heap.size:=by simpa[World.setRow]using F
   by_cases Y:b=L.b
   .subst Y;rw[setRow_heap w L.b arr _ t _ M];simp only[sortWorldK,grow,putRowK,putRow,mapBlock,Go.Sort.ahead];rw[cO (by simpa using uB),bk,if_pos rfl,M];rfl
   .rw[acH _ _ _ _ _ _ _ uB Y];simp only[World.setRow,bk];rw[if_neg (cH Y)]
 exact⟨_,c,_,_,rfl,k _ b1 a2,gf,w1.rm A9,.tup [] [] rfl (λi v d Q=>by simp at Q),w2.trans (DZ _ A9) (bb _)⟩
end
structure B7(P:Program)(f:FuncId):Prop where
 full:∀(mz off cap:Nat) (zs:List Int) (w:World) (_:Holds (Value.int .i64) w mz off zs.toArray) (_:mz<w.heap.size) (_:zs.l<4611686018427387904),
  Calls P f #[.slice (aE ⟨mz,off,b4⟩) zs.l cap] w λe w'=>e = .returned (.tuple #[])/\∃n os,w'=grow (putRow (Value.int .i64) (Go.Sort.ahead w n) mz off (zs.mergeSort λx y=>decide (x<=y)).toArray) os
section
variable{P:Program}{G:GT}{c:Ctx}{H:gg}{w:World}
theorem apW{f:FuncId}(hS:B7 P f)(l:List Int)(h0:0<l.l)(K:l.l<4611686018427387904){v gen:Nat}{t:TypeId}(m:H[v]? = aE (.row t gen (l.map λn=>D.i n))){R:D->gg->Prop}
  (k:R (.tup []) (H.set v (.row t gen ((l.mergeSort λx y=>decide (x<=y)).map λn=>D.i n)))):wR P G f [.gh v gen 1 0 l.l] H R:=by
 intro c w vs gu s
 cases s with
 | @cons u _ _ _ h1 s=>
 cases s;have C:l.l=l.l:=rfl;revert C;generalize hN:l.l=N at h1;intro C
 cases h1 with
 | nq=>omega
 | gh _ _ _ _ _ cap L z r kI jv nG=>
 have p:=gu.ob v _ m;simp only[Ob.gen]at p;rw[z]at p;simp only[iy,r]at p;obtain⟨arr,h,Y,g,Q⟩:=p;rw[bs,hN]at g;have J:mZ c H L.b:=⟨v,L,⟨_,m,rfl,z⟩,r,rfl⟩;have o:=gu.lt _ J;have I:∀j,w.cell? ⟨L.b,j,b4⟩=arr[j]? := λj=>by simp[World.cell?,h]
 have W:Holds (Value.int .i64) w L.b (L.base+0*1) l.toArray:=by
  intro j T;have A:j<l.l:=by simpa using T
  obtain⟨y,h1,h2,X⟩:=Q j (.i l[j]) (by simp[A]);cases X;refine⟨?_,by simp[World.frozen?,h]⟩;rw[I,(U:L.base+0*1+j=L.base+j),h1];simp[A]
 have B:=hS.full L.b (L.base+0*1) cap l w W o K;rw[hN]at B;refine B.mono ?_;rintro e w' ⟨rfl,n,os,rfl⟩;generalize S:(l.mergeSort λx y=>decide (x<=y))=l' at k ⊢;have Z:l'.l=N:=by rw[<-S,eM,hN]
 obtain⟨w1,w2⟩:=Gw gu m z r h (putCells (Value.int .i64) (L.base+0*1) l'.toArray arr) (by simp[putCells]) Y (l'.map λn=>D.i n) (by rw[bs,Z];exact g) (λi dd hi=>by
  rw[ax]at hi;obtain⟨a,E,rfl⟩:=aq.1 hi;have O:i<l'.l:=(ae.1 E).1;refine⟨.int .i64 a,?_,rfl,.val _⟩;rw[putCells,dH,cE U,aK,if_pos ⟨U,gO⟩];rw[(U:L.base+i-(L.base+0*1)=i),getElem!_pos l'.toArray i (by simpa using O)];have:=(ae.1 E).2
  simp[this])
 have F:kN (w.setRow L.b (putCells (Value.int .i64) (L.base+0*1) l'.toArray arr)) (grow (putRow (Value.int .i64) (Go.Sort.ahead w n) L.b (L.base+0*1) l'.toArray) os):=by
  refine⟨⟨rfl,fq _ _⟩,rfl,rfl,?_,λb V=>?_⟩
  .simp[World.setRow,grow,putRow,mapBlock,Go.Sort.ahead]
  .have M:b<w.heap.size:=by simpa[World.setRow]using V
   simp only[grow,putRow,mapBlock,Go.Sort.ahead];rw[cO (by simpa using M),bk]
   by_cases q:L.b=b
   .subst q;rw[setRow_heap w L.b arr _ t _ h,if_pos rfl,h];rfl
   .simp only[World.setRow,bk];rw[if_neg q,if_neg q]
 exact⟨_,c,_,_,rfl,k,gf,w1.rm F,.tup [] [] rfl (λi v d m=>by simp at m),w2.trans (DZ _ F) (bb _)⟩
end
structure BX(P:Program)(f:FuncId):Prop where
 full:∀(mz off cap i:Nat) (zs:List Int) (w:World) (_:Holds (Value.int .i64) w mz off zs.toArray) (_:zs.l<=cap) (_:cap<=9223372036854775807) (_:i<zs.l),
  Calls P f #[.slice (aE ⟨mz,off,b4⟩) zs.l cap,.int .i64 i,.int .i64 ((i:Int)+1)] w λe w'=>e = .returned (.slice (aE ⟨mz,off,b4⟩) (zs.l-1) cap)/\∃n,w'=putRow (Value.int .i64) (Go.Sort.ahead w n) mz off (zs.take i++zs.drop (i+1) ++ [0]).toArray
section
variable{P:Program}{G:GT}{c:Ctx}{H:gg}{w:World}
theorem aeO{f:FuncId}(hS:BX P f)(l:List Int)(i:Nat)(hi:i<l.l){v gen:Nat}{t:TypeId}{zs:List D}(B:H[v]? = aE (.row t gen (l.map (λn=>D.i n)++zs))){R:D->gg->Prop}
  (k:R (.gh v gen 1 0 (l.l-1)) (H.set v (.row t gen ((l.take i++l.drop (i+1) ++ [0]).map (λn=>D.i n)++zs)))):wR P G f [.gh v gen 1 0 l.l,.i i,.i ((i:Int)+1)] H R:=by
 intro c w vs gu g
 cases g with
 | @cons u _ _ _ h1 g=>
 cases g with
 | @cons u2 _ _ _ s g=>
 cases g with
 | @cons u3 _ _ _ p g=>
 cases g;cases s;cases p;have K:l.l=l.l:=rfl;revert K;generalize hN:l.l=N at h1;intro K
 cases h1 with
 | nq=>omega
 | gh _ _ _ _ _ cap L x q kI J W=>
 have r:=gu.ob v _ B;simp only[Ob.gen]at r;rw[x]at r;simp only[iy,q]at r;obtain⟨arr,o,IZ,d,E⟩:=r;rw[ar,bs,hN]at d;have T:mZ c H L.b:=⟨v,L,⟨_,B,rfl,x⟩,q,rfl⟩;have M:=gu.lt _ T;have S:∀j,w.cell? ⟨L.b,j,b4⟩=arr[j]? := λj=>by simp[World.cell?,o]
 have hH:Holds (Value.int .i64) w L.b (L.base+0*1) l.toArray:=by
  intro j m;have z:j<l.l:=by simpa using m
  obtain⟨y,h1,s,p⟩:=E j (.i l[j]) (by rw[ah (by simpa using z)];simp[z]);cases p;refine⟨?_,by simp[World.frozen?,o]⟩;rw[S,(U:L.base+0*1+j=L.base+j),h1];simp[z]
 have I:=hS.full L.b (L.base+0*1) cap i l w hH U (by unfold maxLen at J;omega) hi;rw[hN]at I k;refine I.mono ?_;rintro e w' ⟨rfl,n,rfl⟩;generalize X:l.take i++l.drop (i+1) ++ [0]=l' at k ⊢
 have O:l'.l=N:=by rw[<-X,ar,ar,aG,aX,bn,hN];omega
 obtain⟨w1,w2⟩:=Gw gu B x q o (putCells (Value.int .i64) (L.base+0*1) l'.toArray arr) (by simp[putCells]) IZ (l'.map (λn=>D.i n)++zs) (by rw[ar,bs,O];exact d) (λj dd m=>by
  by_cases F:j<l'.l
  .rw[ah (by simpa using F),ax]at m;obtain⟨a,Z,rfl⟩:=aq.1 m;refine⟨.int .i64 a,?_,rfl,.val _⟩;rw[putCells,dH,cE U,aK,if_pos ⟨U,gO⟩];rw[(U:L.base+j-(L.base+0*1)=j),getElem!_pos l'.toArray j (by simpa using F)];have:=(ae.1 Z).2;simp[this]
  .have C:l'.l<=j:=by omega
   rw[ak (by simpa using C),bs,O]at m;obtain⟨y,h1,s,p⟩:=E j dd (by rw[ak (by rw[bs];omega),bs,hN];exact m);refine⟨y,?_,s,p⟩
   rw[putCells,dH,h1,aK,if_neg (λh=>by have:=h.2;simp at this;omega)])
 have Q:kN (w.setRow L.b (putCells (Value.int .i64) (L.base+0*1) l'.toArray arr)) (putRow (Value.int .i64) (Go.Sort.ahead w n) L.b (L.base+0*1) l'.toArray):=by
  refine⟨⟨rfl,fq _ _⟩,rfl,rfl,?_,λb Y=>?_⟩
  .simp[World.setRow,putRow,mapBlock,Go.Sort.ahead]
  .have uB:b<w.heap.size:=by simpa[World.setRow]using Y
   simp only[putRow,mapBlock,Go.Sort.ahead];rw[bk]
   by_cases A:L.b=b
   .subst A;rw[setRow_heap w L.b arr _ t _ o,if_pos rfl,o];rfl
   .simp only[World.setRow,bk];rw[if_neg A,if_neg A]
 have V:gq c (putRow (Value.int .i64) (Go.Sort.ahead w n) L.b (L.base+0*1) l'.toArray) (.slice (aE ⟨L.b,L.base+0*1,b4⟩) (N-1) cap) (.gh v gen 1 0 (N-1)):=.gh v gen 1 0 (N-1) cap L x q U J W;exact⟨_,c,_,_,rfl,k,gf,w1.rm Q,V,w2.trans (DZ _ Q) (bb _)⟩
end
end Go.AL
namespace Go.AL
open Go
def Out.ex:Out->Exit
 | .norm _=>.normal
 | .exit id _=>.exit id
 | .ret _=>.ret
def aog(A:Array Oper):List (List Nat):=A.toList.foldl (init:=[]) λa o=>
 a ++ [dedup ((o.after.toList.filter λe=>Region.binds .any e).flatMap λe=>e.on::a.getD e.on [])]
def aot(l:List iz)(ord:List (List Nat)):List (Nat×Nat):=(dx l.l).flatMap λi=>(dx i).filterMap λk=>
 if (ord.getD i []).contains k then b4 else match l[k]?,l[i]? with
  | some a,aE b=>if Qy a.op b.op then b4 else aE (k,i)
  | _,_=>b4
def aaG:List FuncId:=[283]
def TM:jh->Bool
 | .call f _=>aaG.contains f
 | .callN f _=>aaG.contains f
 | .callv _ xs=>xs.l == 4
 | _=>cp
def aaH(A:Array Oper)(l:List iz)(ord:List (List Nat))(n:Nat):Bool:=n<l.l&&(dx l.l).all λi=>decide (i<n)||(dx i).all λk=>(ord.getD i []).contains k||(decide (n<=k)&&decide (k+1=i)&&Gp A k i)
def Xl(A:Array Oper)(a:List (Nat×Nat))(l:List iz)(ord:List (List Nat)):IR:=
 let n:=l.findIdx λe=>TM e.op
 if aaH A l ord n then .nT a (l.take n) (l.drop n)else .mO a l
def oZ:Code->List (Array Tmp×Code×Code)
 | .seq a b=>oZ a++oZ b
 | .cond _ a b=>oZ a++oZ b
 | .block _ a=>oZ a
 | .loop a=>oZ a
 | .rangeFunc _ ps a b=>(ps,a,b)::(oZ a++oZ b)
 | _=>[]
def cC(P:Program)(G:GT)(N:Nat)(rf:Nat):List (List Nat)->Code->Option (IR×List (List Nat))
 | hs,.skip=>aE (.skip,hs)
 | hs,.region _ ops cp=>match qJ P G N ops ops.toList with
  | some l=>aE (.ops l,hs)
  | none=>aE (.bad,hs)
 | hs,.region _ ops cj=>match qJ P G N ops ops.toList with
  | some l=>
   let ord:=aog ops
   let d:=aot l ord
   if AK ops&&zU ops ord&&Uw l ord d then aE (Xl ops d l ord,hs)else aE (.bad,hs)
  | none=>aE (.bad,hs)
 | hs,.seq a b=>match cC P G N rf hs a with
  | some (x,lL)=>match cC P G N (rf+(oZ a).l) lL b with
   | some (y,mG)=>aE (.seq x y,mG)
   | none=>b4
  | none=>b4
 | hs,.cond c a b=>match cX G c with
  | some x=>match cC P G N rf hs a with
   | some (y,lL)=>match cC P G N (rf+(oZ a).l) lL b with
    | some (z,mG)=>aE (.cond x y z,mG)
    | none=>b4
   | none=>b4
  | none=>aE (.bad,hs)
 | hs,.block id a=>match hs with
  | l::hs=>match cC P G N rf hs a with
   | some (x,lL)=>aE (.block id l x,lL)
   | none=>b4
  | []=>b4
 | hs,.loop a=>match hs with
  | l::hs=>match cC P G N rf hs a with
   | some (x,lL)=>aE (.loop l x,lL)
   | none=>b4
  | []=>b4
 | hs,.rangeFunc g _ _ _=>match cX G g,hs with
  | some x,l::hs=>aE (.po rf l x,hs)
  | _,_=>aE (.bad,hs)
 | hs,.exit id=>aE (.exit id,hs)
 | hs,.ret=>aE (.ret,hs)
 | hs,_=>aE (.bad,hs)
inductive o4(P:Program)(G:GT)(N:Nat):IR->Code->Prop
 | skip:o4 P G N .skip .skip
 | ops {l id A} (h:qJ P G N A A.toList=aE l):o4 P G N (.ops l) (.region id A cp)
 | mO {kf l id A} (ord:List (List Nat)) (h:qJ P G N A A.toList=aE l) (he:AK A=cj) (ho:zU A ord=cj) (hp:Uw l ord kf=cj):o4 P G N (.mO kf l) (.region id A cj)
 | nT {kf l es id A} (ord:List (List Nat)) (h:qJ P G N A A.toList=aE (l++es)) (he:AK A=cj) (ho:zU A ord=cj) (hp:Uw (l++es) ord kf=cj) (Bb:∀i,l.l<=i->i<(l++es).l->∀k,k<i->k∈ord.getD i []\/(l.l<=k/\k+1=i/\Gp A k i=cj)):o4 P G N (.nT kf l es) (.region id A cj)
 | seq {a b x y} (h1:o4 P G N x a) (h2:o4 P G N y b):o4 P G N (.seq x y) (.seq a b)
 | cond {c a b x y z} (hc:cX G c=aE x) (h1:o4 P G N y a) (h2:o4 P G N z b):o4 P G N (.cond x y z) (.cond c a b)
 | block {id l a x} (h:o4 P G N x a):o4 P G N (.block id l x) (.block id a)
 | loop {l a x} (h:o4 P G N x a):o4 P G N (.loop l x) (.loop a)
 | po {rf l x g ps ac bc} (hx:cX G g=aE x) (h:G.rt rf=aE (N,ps,ac,bc)):o4 P G N (.po rf l x) (.rangeFunc g ps ac bc)
 | exit {id}:o4 P G N (.exit id) (.exit id)
 | ret:o4 P G N .ret .ret
 | bad {c}:o4 P G N .bad c
def B4(G:GT)(N rf:Nat)(code:Code):Prop:=∀(i:Nat) (x:Array Tmp×Code×Code),(oZ code)[i]? = aE x->G.rt (rf+i)=aE (N,x)
def B4.left{G:GT}{N rf:Nat}{a b:Code}{l:List (Array Tmp×Code×Code)}(hl:l=oZ a++oZ b)(h:∀(i:Nat) (x:Array Tmp×Code×Code),l[i]? = aE x->G.rt (rf+i)=aE (N,x)):B4 G N rf a/\B4 G N (rf+(oZ a).l) b:=by
 subst hl;refine⟨λi x c=>h i x ?_,λi x c=>?_⟩
 .grind
 .rw[bg];exact h _ x (by rw[ak U];simpa using c)
def Q4{P:Program}{G:GT}{N:Nat}:∀ {code:Code} {rf:Nat} {hs j:List (List Nat)} {f:IR},B4 G N rf code->cC P G N rf hs code=aE (f,j)->o4 P G N f code:=by
 intro code
 induction code with
 | skip=>intro rf hs j f d h;simp only[cC]at h;cases h;exact .skip
 | region id A mO=>
  intro rf hs j f d h;cases mO
  .simp only[cC]at h;split at h
   .rename_i l hl;cases h;exact .ops hl
   .cases h;exact .bad
  .simp only[cC]at h;split at h
   .rename_i l hl;split at h
    .rename_i n;cases h;simp only[ai]at n;unfold Xl;dsimp only;split
     .rename_i t;unfold aaH at t;simp only[ai,b9,decide_eq_true_eq,List.all_eq_true,br,dD]at t;refine .nT _ (by rw[bZ];exact hl) n.1.1 n.1.2 (by rw[bZ];exact n.2) λi hi w k D=>?_;rw[bZ]at w;have C:(l.take (l.findIdx λe=>TM e.op)).l=l.findIdx λe=>TM e.op:=by rw[aG];omega
      rw[C]at hi ⊢;rcases t.2 i w with h|h
      .omega
      .exact(h k D).imp (λh=>h) λh=>⟨h.1.1,h.1.2,h.2⟩
     .exact .mO _ hl n.1.1 n.1.2 n.2
    .cases h;exact .bad
   .cases h;exact .bad
 | seq a b m p=>
  intro rf hs j f d h;obtain⟨v,u⟩:=B4.left rfl d;simp only[cC]at h;split at h
  .rename_i x q o;split at h
   .rename_i y B s;cases h;exact .seq (m v o) (p u s)
   .cases h
  .cases h
 | cond c a b m p=>
  intro rf hs j f d h;obtain⟨v,u⟩:=B4.left rfl d;simp only[cC]at h;split at h
  .rename_i x r;split at h
   .rename_i y q o;split at h
    .rename_i z B s;cases h;exact .cond r (m v o) (p u s)
    .cases h
   .cases h
  .cases h;exact .bad
 | block id a m=>
  intro rf hs j f d h;simp only[cC]at h;split at h
  .split at h
   .rename_i x q o;cases h;exact .block (m d o)
   .cases h
  .cases h
 | loop a m=>
  intro rf hs j f d h;simp only[cC]at h;split at h
  .split at h
   .rename_i x q o;cases h;exact .loop (m d o)
   .cases h
  .cases h
 | rangeFunc g ps a b m p=>
  intro rf hs j f d h;simp only[cC]at h;split at h
  .rename_i x l q r;cases h;exact .po r (d 0 _ rfl)
  .cases h;exact .bad
 | exit id=>intro rf hs j f d h;simp only[cC]at h;cases h;exact .exit
 | ret=>intro rf hs j f d h;simp only[cC]at h;cases h;exact .ret
 | _=>intro rf hs j f d h;simp only[cC]at h;cases h;exact .bad
def cR(P:Program):ResultVar->Option wU
 | .tmp t=>aE (.tmp t)
 | .cell a t=>match qc P t,lg P t with
  | some cp,aE _=>aE (.uT a)
  | some cj,aE n=>aE (.Q6 n a)
  | _,_=>b4
def Cc(P:Program):List ResultVar->Option (List wU)
 | []=>aE []
 | x::r=>match cR P x,Cc P r with
  | some a,aE l=>aE (a::l)
  | _,_=>b4
def BO(P:Program)(k:Nat):Option (Nat×Array Tmp×Code×Code):=match P.funcs[k / 64]? with
 | some fn=>match fn.body with
  | some code=>(oZ code)[k % 64]?.map λx=>(fn.ntmps,x)
  | none=>b4
 | none=>b4
def aoE{P:Program}{G:GT}(d:G.rt=BO P){f:Nat}{fn:Func}{code:Code}(b:P.funcs[f]? = aE fn)(c:fn.body=aE code)(hl:(oZ code).l<=64):B4 G fn.ntmps (64*f) code:=by intro i x a;have hi:i<64:=aR (ae.1 a).1 hl;rw[d];unfold BO;rw[(U:(64*f+i) / 64=f),(U:(64*f+i) % 64=i),b];simp[c,a]
structure G0(P:Program)(G:GT)(f:FuncId)(fn:jK):Prop where
 ex:∃func code hs iD,P.funcs[f]? = aE func/\func.body=aE code/\uu P f=cj/\(oZ code).l<=64/\cC P G fn.ntmps (64*f) hs code=aE (fn.body,iD)/\func.ntmps=fn.ntmps/\Cc P func.results.toList=aE fn.results
structure wV(P:Program)(G:GT)(rf:Nat)(R:sC):Prop where
 ex:∃N ps ac bc,G.rt rf=aE (N,ps,ac,bc)/\ps.toList=R.params/\(R.params.all λp=>decide (p<N))=cj/\o4 P G N R.a ac/\o4 P G N R.b bc
structure QU(P:Program)(G:GT)(T:iL):Prop where
 rt:G.rt=BO P
 fn:∀f fn,T.fn f=aE fn->G0 P G f fn
 round:∀rf R,T.round rf=aE R->wV P G rf R
 sort:∀f sz,T.sort f=aE sz->yU P f sz
 uM:∀f,T.uM f=cj->B7 P f
 uq:∀f,T.uq f=cj->BX P f
def Ns(F:Fence)(n:Nat)(P:Program)(c:Code)(Q:Exit->Act->World->Prop)(a:Act)(w:World):Prop:=
 ∀(b:Frame) (k:List Item) (cs:List Frame),b.roundOf=F.round->F.fn b.fn->F.room (cs.l+1+n) ->
  ∃e d w',Q e d w'/\ArrivesIn (Machine.fenced P F) P (lone (b.atR a (.code c :: .inLoop c::k)) cs w) b k cs e d w'
section
variable{F:Fence}{n:Nat}{P:Program}{Q:Exit->Act->World->Prop}{a:Act}{w:World}
theorem aiQ{c:Code}(h:c.wpIn F n P (Exit.then (Ns F n P c Q) Q) a w):Ns F n P c Q a w:=by
 intro b k cs t m j;obtain⟨e,i,g,f,d⟩:=h b (.inLoop c::k) cs t m j
 cases e with
 | normal=>
  obtain⟨r,s,o,q,p⟩:=f b k cs t m j;exact⟨r,s,o,q,.of_steps (StepsIn.trans d (.one (fenced_calm m j rfl) stepR_inLoop)) p⟩
 | exit id=>exact⟨_,i,g,f,.pass (x:=.inLoop c) rfl (λ_ _=>.inl gf) d⟩
 | goto l=>exact⟨_,i,g,f,.pass (x:=.inLoop c) rfl (λ_ _=>.inl gf) d⟩
 | ret=>exact⟨_,i,g,f,.pass (x:=.inLoop c) rfl (λ_ _=>.inl gf) d⟩
 | panic ch=>exact⟨_,i,g,f,.pass (x:=.inLoop c) rfl (λ_ _=>.inl gf) d⟩
 | outgrown=>exact⟨_,i,g,f,.pass (x:=.inLoop c) rfl (λ_ _=>.inl gf) d⟩
theorem aqk{c:Code}(h:Ns F n P c Q a w):(Code.loop c).wpIn F n P Q a w:=by intro b k cs i f d;obtain⟨e,l,w',j,g⟩:=h b k cs i f d;exact⟨e,l,w',j,.of_steps (.one (fenced_calm f d rfl) stepR_loop) g⟩
end
section
variable{P:Program}{G:GT}{c:Ctx}{w:World}{a:Act}{N:Nat}
theorem QY(δ:Dl)(H:gg):H.l<=(δ.app H (Al.last H)).l:=by
 cases δ with
 | no=>exact bb _
 | cells v o xs=>simp only[Dl.app];split<;>simp
 | obj v ob=>simp[Dl.app]
 | new ob=>simp[Dl.app,Al.last]
theorem Qr(ks:oQ)(H:gg):(sV ks H).l=ks.l:=by simp[sV]
theorem abm{ks:oQ}{H:gg}{f:Nat->Nat}:∀ {vs:List Nat} {ds:List Deferred},tF c vs ds->(∀v∈vs,∀L,c.ι v 0=aE L->(c.gA ks H).ι (f v) 0=aE L)->tF (c.gA ks H) (vs.map f) ds:=by
 intro vs ds h
 induction h with
 | nil=>intro _;exact .nil
 | cons L h1 e _ b=>intro a;exact .cons L (a _ gf L h1) e (b λv d=>a v (by simp[d]))
theorem acU{n:Nat}{d:D}{v:Nat}(a:v∈jP n d):n<=v:=by cases d<;>simp only[jP]at a<;>first|(split at a<;>simp at a;omega)|(simp at a)
theorem abA{n:Nat}{o:Ob}{v:Nat}(a:v∈pZ n o):n<=v:=by
 unfold pZ at a;split at a
 .obtain⟨l2,b,c⟩:=bp.1 a;obtain⟨d,_,rfl⟩:=au.1 b;exact acU c
 .obtain⟨l2,b,c⟩:=bp.1 a;obtain⟨d,_,rfl⟩:=au.1 b;exact acU c
 .cases a
theorem Cj{s:St}(hs:l3 G N c w s a){n:Nat}(r:n<=s.H.l)(live:List Nat) :
  ∃c',l3 G N c' w (cut n live s) a/\Step n c s.H w c' (cut n live s).H w/\n<=(cut n live s).H.l:=by
 unfold cut;split
 .exact⟨c,⟨hs.gu,EK hs.env live,hs.size,hs.marks⟩,Step.refl _ _ _ _,r⟩
 .dsimp only;generalize j:dedup _=K
  have m:∀v∈K,v∈(((forget live s.env).map λp=>jP n p.2).flatten++((s.H.take n).map (pZ n)).flatten++s.marks.filter (n<=·)).filter (· < s.H.l):=λv b=>by rw[<-j]at b;exact Jo b
  have y:∀(d:D) (v:Nat),v∈jP n d->n<=v:=by intro d v b;cases d<;>simp only[jP]at b<;>first|(split at b<;>simp at b;omega)|(simp at b)
  have x:∀v∈K,n<=v:=by
   intro v b;have:=(aO.1 (m v b)).1;rcases aj.1 this with h|h
   .rcases aj.1 h with h|h
    .grind
    .obtain⟨l,hl,q⟩:=bp.1 h;obtain⟨o,_,rfl⟩:=au.1 hl;exact abA q
   .grind
  have e:B1 (jC n K):=aay x (by rw[<-j];exact PS _);have u:=U5 (ks:=jC n K) hs.gu (n:=n) aax;refine⟨c.gA (jC n K) s.H,⟨Gd hs.gu e,Xu hs.gu (EK hs.env live),hs.size,?_⟩,u,?_⟩
  .refine abm hs.marks λv b L g=>?_
   have t:v<s.H.l:=by
    rcases bJ v s.H.l with h|h
    .exact h
    .rw[hs.gu.out v 0 h]at g;cases g
   have:∃i,jc (jC n K) v=aE i:=by
    by_cases k:v<n
    .refine⟨v,UO e ?_⟩;unfold jC;rw[ah (by simpa using k)];simp[k]
    .have f:v∈K:=by rw[<-j];refine N5 (aO.2 ⟨bP _ (aO.2 ⟨b,by simpa using fX.1 k⟩),by simpa using t⟩)
     obtain⟨i,hi⟩:=aH.1 f;refine⟨n+i,UO e ?_⟩;unfold jC;rw[ak gf];simp[hi]
   obtain⟨i,hi⟩:=this;rw[hi];simp only[a7];rw[Gz hi];exact g
  .rw[Qr];simp[jC]
theorem YF{s:St}(hs:l3 G N c w s a)(S:List Nat):∃c',l3 G N c' w (mQ S s) a/\Step s.H.l c s.H w c' (mQ S s).H w/\(mQ S s).H.l=s.H.l:=by
 refine⟨c.gA (nz s.H S) s.H,⟨Gd hs.gu YE,Xu hs.gu hs.env,hs.size,?_⟩,U5 hs.gu YD,RU⟩
 have:=abm (ks:=nz s.H S) (H:=s.H) (f:=id) hs.marks λv _ L b=>by
  have i:v<s.H.l:=by
   rcases bJ v s.H.l with h|h
   .exact h
   .rw[hs.gu.out v 0 h]at b;cases b
  have d:=YD (S:=S) v i;simp only[aq]at d;obtain⟨p,g,e⟩:=d;simp only[Ctx.gA,id,g,e];exact b
 simpa[mQ]using this
theorem aom{n:Nat}{d:D}{v:Nat}(a:v∈F3 n d):n<=v:=by
 unfold F3 at a;split at a
 .grind
 .grind
 .simp at a
theorem Bs{H:gg}(gu:gL G c H w){n:Nat}(i:n<=H.l)(own:Nat){u:Value}{d:D}(b:gq c w u d) :
  ∃c',gL G c' (leave own n H d).2 w/\gq c' w u (leave own n H d).1/\Step n c H w c' (leave own n H d).2 w/\n<=(leave own n H d).2.l:=by
 unfold leave;split
 .exact⟨c,gu,b,Step.refl _ _ _ _,i⟩
 .dsimp only;generalize e:dedup _=K
  have j:∀v∈K,n<=v:=by
   intro v a;rw[<-e]at a;have:=(aO.1 (Jo a)).1;rcases aj.1 this with h|h
   .split at h
    .simp at h
    .exact aom h
    .grind
    .grind
   .obtain⟨l,hl,g⟩:=bp.1 h;obtain⟨o,_,rfl⟩:=au.1 hl;exact abA g
  have f:B1 (jC n K):=aay j (by rw[<-e];exact PS _);exact⟨c.gA (jC n K) H,Gd gu f,BI gu 40 b,U5 gu aax,by rw[Qr];simp[jC]⟩
theorem ai8(args:List D)(k:Nat):(vx args).get k=(args[k]?).getD .any:=by
 have key:∀(l:List D) (i k:Nat),Env.get ((l.zipIdx i).map λp=>(p.2,p.1)) k=if k<i then .any else(l[k-i]?).getD .any:=by
  intro l
  induction l with
  | nil=>intro i k;simp[Env.get]
  | cons d l a=>
   intro i k;simp only[List.zipIdx_cons,List.map_cons,Env.yg];split
   .grind
   .grind
 have:=key args 0 k;simpa[vx]using this
theorem ae1{vs:List Value}{args:List D}(b:j' c w vs args)(n:Nat):lO c w (vx args).get { tmps:=vs.toArray++Array.replicate (n-vs.toArray.size) undef,defers:=[] }:=λk=>by
 rw[ai8];have hl:=b.l
 cases f:args[k]? with
 | none=>exact .any _
 | some d=>
  have a:k<vs.l:=by rw[hl];exact(ae.1 f).1
  have g:vs[k]? = aE vs[k]:=by simp[a]
  have:=b.get k vs[k] d g f;simp only[a7]
  have e:(vs.toArray++Array.replicate (n-vs.toArray.size) undef).getD k undef=vs[k]:=by rw[da,cO (by simpa using a)];simp[a]
  rw[e];exact this
theorem aiM{H:gg}(h:gL G c H w){t:TypeId}(k:qc P t=aE cp){x d:D}{u:Value}(j:gq c w u x)(a:yC x H=aE d) :
  ∃v,(Instr.loadAt t u).run P w = .ok v w/\gq c w v d/\∃b o,u = .pointer (aE ⟨b,o,b4⟩):=by
 unfold yC at a;split at a
 .rename_i v g o;split at a
  .rename_i n cs l;have m:=vF l;obtain⟨b,p,rfl,f⟩:=NM h m j;obtain⟨u,e,_,i⟩:=Qn k f (d:=d) (by simpa using a);exact⟨u,e,i,b,p,rfl⟩
  .cases a
 .rename_i cs;obtain⟨b,p,rfl,_,f⟩:=AD j;obtain⟨u,e,_,i⟩:=Qn k f a;exact⟨u,e,i,b,p,rfl⟩
 .cases a
theorem aiN{H:gg}(h:gL G c H w){t:TypeId}{n:Nat}(l:qc P t=aE cj)(hs:lg P t=aE n){x d:D}{u:Value}(k:gq c w u x)(a:xH n x H=aE d) :
  ∃v,(Instr.loadAt t u).run P w = .ok v w/\gq c w v d/\∃b o,u = .pointer (aE ⟨b,o,b4⟩):=by
 unfold xH at a;split at a
 .rename_i v g o;split at a
  .rename_i r cs m;split at a
   .rename_i e;cases a;have q:=vF m;obtain⟨b,p,rfl,i⟩:=NM h q k;obtain⟨u,f,j⟩:=Qo (n:=n) l hs i gO;exact⟨u,f,j,b,p,rfl⟩
   .cases a
  .cases a
 .rename_i cs;split at a
  .rename_i e;cases a;obtain⟨b,p,rfl,_,i⟩:=AD k;obtain⟨u,f,j⟩:=Qo (n:=n) l hs i e;exact⟨u,f,j,b,p,rfl⟩
  .cases a
 .cases a
def DF(tmps:Array Value):ResultVar->Sem Value
 | .tmp t=>pure (tmps.getD t undef)
 | .cell a t=>do loadVar t (<-asAddr (tmps.getD a undef))
theorem aoO{s:St}(hs:l3 G N c w s a){x:ResultVar}{X:wU}(e:cR P x=aE X){d:D}(f:F' s X=aE d) :
  ∃v,(DF a.tmps x).run P w = .ok v w/\gq c w v d:=by
 cases x with
 | tmp t=>
  cases e;simp only[F',av]at f;subst f;exact⟨_,rfl,hs.env t⟩
 | cell p t=>
  have j:=hs.env p;generalize q:a.tmps.getD p undef=u at j
  have key:∀v,(Instr.loadAt t u).run P w = .ok v w->(∃b o,u = .pointer (aE ⟨b,o,b4⟩))->(DF a.tmps (.cell p t)).run P w = .ok v w:=by rintro v h ⟨b,o,rfl⟩;simpa[Instr.loadAt,Instr.sureAddr,asAddr,DF,q]using h
  simp only[cR]at e;split at e
  .rename_i n l m;cases e;obtain⟨v,g,i,k⟩:=aiM hs.gu l j f;exact⟨v,key v g k,i⟩
  .rename_i n l m;cases e;obtain⟨v,g,i,k⟩:=aiN hs.gu l m j f;exact⟨v,key v g k,i⟩
  .cases e
theorem UN{s:St}(hs:l3 G N c w s a):∀(l:List ResultVar) {xs:List wU} {ds:List D},Cc P l=aE xs->wL s xs=aE ds ->
  ∃vs:List Value,(l.mapM (DF a.tmps)).run P w = .ok vs w/\j' c w vs ds
 | [],xs,ds,h1,h2=>by cases h1;cases h2;exact⟨[],rfl,.nil⟩
 | x::l,xs,ds,h1,h2=>by
  simp only[Cc]at h1;split at h1
  .rename_i X k hX j;cases h1;simp only[wL]at h2;split at h2
   .rename_i d i h b;cases h2;obtain⟨v,f,g⟩:=aoO hs hX h;obtain⟨vs,e,yx⟩:=UN hs l j b;exact⟨v::vs,by simp[eV,f,e],.cons g yx⟩
   .cases h2
  .cases h1
theorem aoQ{s:St}(hs:l3 G N c w s a){func:Func}{fn:jK}(k:Cc P func.results.toList=aE fn.results){d:D}(g:AL.results fn s=aE d) :
  ∃v,(Go.results func a.tmps).run P w = .ok v w/\gq c w v d:=by
 have e:∀vs:List Value,(func.results.toList.mapM (DF a.tmps)).run P w = .ok vs w->(Go.results func a.tmps).run P w = .ok (if h:vs.toArray.size=1 then vs.toArray[0]else .tuple vs.toArray) w:=by
  intro vs b
  have h1:(func.results.mapM (DF a.tmps)).run P w = .ok vs.toArray w:=by rw[fh,Sem.run_map,b];rfl
  have j:Go.results func a.tmps=(do let vs <-func.results.mapM (DF a.tmps);pure (if h:vs.size=1 then vs[0]else .tuple vs)):=rfl;rw[j,Sem.run_bind,h1];rfl
 unfold AL.results at g;split at g
 .rename_i d' i;cases g;obtain⟨vs,b,f⟩:=UN hs _ k i
  cases f with
  | cons h t=>
   cases t;exact⟨_,e _ b,h⟩
 .rename_i ds l i;cases g;obtain⟨vs,b,f⟩:=UN hs _ k i;refine⟨_,e _ b,?_⟩
  have hl:vs.toArray.size≠1:=by
   intro h1;have j:ds.l=1:=by rw[<-f.l];simpa using h1
   match ds,j with
   | [d],_=>exact l d rfl
  rw[dif_neg hl];exact .tup vs ds f.l f.get
 .cases g
end
section
variable{P:Program}{G:GT}{c:Ctx}{H:gg}{w:World}{env:il}{a:Act}{N:Nat}
theorem Xm(h:gL G c H w){v:Nat}{ob:Ob}(z:H[v]? = aE ob)(O:ob.alive=cj){L:Loc}(Q:c.ι v ob.gen=aE L)(x:L.ko=cp)
  {w':World} (F:w'.os=w.os/\w.drawn<=w'.drawn) (R:w'.tape=w.tape) (I:w'.output=w.output) (B:w'.heap.size=w.heap.size) (t:∀b,b≠L.b->w'.heap[b]? = w.heap[b]?) :
  gL G c (H.set v .dead) w'/\Step H.l c H w c (H.set v .dead) w':=by
 have s:=(ae.1 z).1;have C:mJ c H v L:=⟨ob,z,O,Q⟩;have D:mZ c H L.b:=⟨v,L,C,x,rfl⟩
 have q:∀u l,mJ c (H.set v .dead) u l->u≠v/\mJ c H u l:=by
  rintro u l ⟨o,f,y,hi⟩;rw[tY s]at f;split at f
  .cases f;cases y
  .rename_i n;exact⟨n,o,f,y,hi⟩
 have m:∀b,mZ c (H.set v .dead) b->mZ c H b:=λb ⟨u,l,hl,r⟩=>⟨u,l,(q u l hl).2,r⟩
 have hs:Step H.l c H w c (H.set v .dead) w':=
  ⟨F,R,I,U,rfl,λ_ h=>h,λ_ h=>.inl h,λb _ N=>t b (λe=>N (e▸D)),λ_ _ _ _ h=>h,λb i=>.inr (m b i)⟩
 have A:∀u d,gq c w u d->gq c w' u d:=λu d p=>p.rG h.toHeapOK hs
 refine⟨{
  inj:=λu E l K h1 P=>h.inj u E l K (q _ _ h1).2 (q _ _ P).2
  lt:=λb i=>by rw[B];exact h.lt b (m b i)
  nF:=λb i=>h.nF b (m b i)
  lF:=λb i=>by rw[B];exact h.lF b i
  out:=λu k M=>h.out u k (by simpa using M)
  nC:=λu o k f j=>by
   rw[tY s]at f;split at f
   .cases f;rcases j with j|⟨j,_⟩<;>cases j
   .exact h.nC u o k f j
  ob:=λu o f=>by
   rw[tY s]at f;split at f
   .cases f;simp[iy]
   .rename_i n;refine iy.keep (c:=c) (c':=c) rfl A (λl hl J p=>t _ λe=>n (h.inj u v l L ⟨o,f,p,hl⟩ C J x e)) (h.ob u o f)
  gl:=λg cs hg=>let ⟨a,b⟩:=h.gl g cs hg;⟨a,A _ _ b⟩
  rt:=h.rt },hs⟩
theorem aiD{fn:Func}{tmps:Array Value}{R:Ending->World->Prop}:∀ {ms:List Nat} {ds:List Deferred} {H H1:gg} {w:World},tF c ms ds->gL G c H w->kill ms H=aE H1 ->
  (∀w1,gL G c H1 w1->Step H.l c H w c H1 w1->H1.l=H.l->LeavesIn (FW b4) 0 P fn tmps R [] .returning w1)->LeavesInM (FW b4) 0 P fn tmps R ds .returning w:=by
 intro ms
 induction ms with
 | nil=>
  intro ds H H1 w e gu d k;cases e;cases d;exact k w gu (Step.refl _ _ _ _) rfl
 | cons v ms i=>
  intro ds H H1 w e gu d k
  cases e with
  | @cons _ _ ds L h1 h e=>
   simp only[kill]at d;split at d
   .rename_i g;have f:=gu.ob v _ g;simp only[Ob.gen]at f;rw[h1]at f;simp only[iy]at f;have a:=f.resolve_left (by simp[h]);have l:L.b<w.heap.size:=(aU.1 a).1;obtain⟨k1,k2⟩:=Xm (w':={ w with heap:=w.heap.setIfInBounds L.b (.deferred b4) }) gu g rfl h1 h ⟨rfl,bb _⟩ rfl rfl gf (λb j=>by rw[cU (cH j)]);refine⟨gf,.inl ⟨L.b,{ w with heap:=w.heap.setIfInBounds L.b (.deferred b4) },rfl,?_,?_⟩⟩
    .simp[Instr.takeDeferred,getObj,setObj,Sem.run,a]
    .refine i e k1 d λw1 q1 q2 q3=>k w1 q1 (k2.trans q2 gf) (by rw[q3];simp)
   .cases d
theorem apl(gu:gL G c H w)(q:lO c w env a){o:Oper}{m:jh}(b:oR P G o=aE m){v:Nat}{args:List D}(f:yieldOf env m=aE (v,args)){rf:Nat}{Q:Env}(M:H[v]? = aE (.iE rf Q .ready)) :
  ∃(L:Loc) (r:Loop) (vs:List Value),c.ι v 0=aE L/\L.ko=cp/\w.heap[L.b]? = aE (.loop r)/\j' c w vs args /\
   (vs.l=r.params.size->(execOp a.eval o).run P w = .ok (.round L.b r.fn ((r.params.zip vs.toArray).foldl (λtmps (t,a)=>tmps.setIfInBounds t a) r.tmps) r.assign r.body) w):=by
 unfold yieldOf at f;split at f
 .rename_i y j;split at f
  .rename_i v' E;cases f;obtain⟨cl,p⟩:=W2 b rfl;have R:=b;unfold oR at b;simp only[p,aF,ag]at b;obtain⟨xs,B,b⟩:=b;have J:=Cd gu q cl.args.toList B
   have F:∃x X,cl.callee = .value x/\cX G x=aE X/\X=y/\xs=j:=by
    split at b
    .split at b
     .exfalso;simp only[aI,av]at b;split at b<;>cases b
     .cases b
    .rename_i x S l;simp only[ag,aI,av]at b;obtain⟨X,hX,O⟩:=b;cases O;exact⟨x,y,l,hX,rfl,rfl⟩
    .split at b
     .simp only[ag]at b;obtain⟨C,_,b⟩:=b;split at b
      .simp only[ag]at b;obtain⟨i,_,z,_,A,_,b⟩:=b;split at b
       .split at b
        .cases b
        .cases b
       .cases b
      .cases b
     .cases b
    .split at b
     .simp only[ag]at b;obtain⟨C,_,b⟩:=b;split at b
      .simp only[ag]at b;obtain⟨A,_,b⟩:=b;split at b
       .simp only[ag]at b;obtain⟨n,_,b⟩:=b;split at b
        .cases b
        .cases b
       .cases b
      .cases b
     .cases b
    .split at b
     .split at b
      .cases b
      .cases b
      .cases b
      .cases b
     .cases b
    .cases b
    .cases b
    .cases b
   obtain⟨x,X,l,hX,rfl,rfl⟩:=F;have h:=jj gu q hX;rw[E]at h;generalize N:a.eval x=u at h
   cases h with
   | jt _ L s K=>
    have g:=gu.ob v _ M;simp only[Ob.gen]at g;rw[s]at g;simp only[iy]at g;obtain⟨_,r,d,_⟩:=g;refine⟨L,r,_,s,K,d,J,λI=>?_⟩;have e:cl.args.map a.eval=(cl.args.toList.map a.eval).toArray:=by cases cl.args;simp
    have k:cl.args.size=r.params.size:=by simpa using I
    simp only[execOp,p,resolve,l,N,Deferred.ofValue,Sem.run_bind,Sem.run_pure,Result.andThen_ok,invoke,Instr.yield,Instr.getLoop,getObj,Sem.run,d];simp[Sem.run,d,k,e]
  .cases f
 .cases f
theorem Xt:∀(ps:List Tmp) (vs:List Value) (ds:List D) (tmps:Array Value) (a:Env),j' c w vs ds->(∀p∈ps,p<tmps.size)->(∀k,gq c w (tmps.getD k undef) (a.get k)) ->
  ∀k,gq c w (((ps.zip vs).foldl (λ(tmps:Array Value) (p:Tmp×Value)=>tmps.setIfInBounds p.1 p.2) tmps).getD k undef) ((vG ps ds a).get k)
 | [],vs,ds,tmps,a,_,_,h,k=>by simpa[vG]using h k
 | p::ps,[],ds,tmps,a,b,_,h,k=>by cases b;simpa[vG]using h k
 | p::ps,v::vs,ds,tmps,a,b,hp,h,k=>by
  cases b with
  | @cons _ d _ ds g b=>
   simp only[List.zip_cons_cons,cD,vG];refine Xt ps vs ds (tmps.setIfInBounds p v) ((p,d)::a) b (λq f=>by simpa using hp q (by simp[f])) (λj=>?_) k;have i:p<tmps.size:=hp p gf;simp only[Env.yg];split
   .rename_i e;subst e;have:(tmps.setIfInBounds p v).getD p undef=v:=by simp[Array.getD,i]
    rw[this];exact g
   .rename_i e
    have:(tmps.setIfInBounds p v).getD j undef=tmps.getD j undef:=by simp only[da,cU e]
    rw[this];exact h j
theorem Yy:∀(l:List (Tmp×Value)) (tmps:Array Value),(l.foldl (λ(tmps:Array Value) (p:Tmp×Value)=>tmps.setIfInBounds p.1 p.2) tmps).size=tmps.size
 | [],_=>rfl
 | p::l,tmps=>by simp only[cD];rw[Yy l];simp
def yR(G:GT)(N n:Nat)(iM:Bool)(c:Ctx)(H:gg)(w:World)(R:Out->Prop)(Q:Exit->Act->World->Prop):Prop:=
 ∀(o:Out) (c':Ctx) (w':World) (a:Act),R o->o.st.iM=iM->n<=o.st.H.l->l3 G N c' w' o.st a->Step n c H w c' o.st.H w'->Q o.ex a w'
theorem P9{s:St}(hs:l3 G N c w s a){v rf:Nat}{e:Env}{st:sB}(f:s.H[v]? = aE (.iE rf e st)){L:Loc}(j:c.ι v 0=aE L) :
  ∃r:Loop,w.heap[L.b]? = aE (.loop r)/\L.ko=cp/\(∀k,gq c w (r.tmps.getD k undef) (e.get k))/\(∃M,G.rt rf=aE (M,r.params,r.assign,r.body)/\M<=r.tmps.size)/\st.is r:=by
 have b:=hs.gu.ob v _ f;simp only[Ob.gen]at b;rw[j]at b;simp only[iy]at b;obtain⟨h1,r,i,h,d,g⟩:=b;rw[hs.gu.rt]at d;exact⟨r,i,h1,h,d,g⟩
theorem ab5{s:St}(hs:l3 G N c w s a){v rf:Nat}{d:Env}{st st':sB}(e:s.H[v]? = aE (.iE rf d st)){L:Loc}(g:c.ι v 0=aE L){r:Loop}(f:w.heap[L.b]? = aE (.loop r))
  (b:Loop) (h1:b.tmps=r.tmps) (p:b.params=r.params) (o:b.assign=r.assign) (n:b.body=r.body) (m:st'.is b) :
  l3 G N c { w with heap:=w.heap.setIfInBounds L.b (.loop b) } { s with H:=s.H.set v (.iE rf d st') } a/\Step s.H.l c s.H w c (s.H.set v (.iE rf d st')) { w with heap:=w.heap.setIfInBounds L.b (.loop b) } /\
   (setObj L.b (.loop b)).run P w = .ok () { w with heap:=w.heap.setIfInBounds L.b (.loop b) }:=by
 obtain⟨x,i,h,u,⟨M,t,q⟩,y⟩:=P9 hs e g;rw[f]at i;cases i
 obtain⟨k1,k2⟩:=BW hs.gu e rfl rfl (ob':=.iE rf d st') rfl g h (.loop b) (λw' l j=>by
  simp only[iy];refine⟨h,b,l,λk=>by rw[h1];exact j _ _ (u k),⟨M,?_,by rw[h1];exact q⟩,m⟩
  rw[hs.gu.rt,t,p,o,n])
 exact⟨⟨k1,λk=>(hs.env k).rG hs.gu.toHeapOK k2,hs.size,hs.marks⟩,k2,by simp[setObj,Sem.run,f]⟩
theorem aif(a:Option Nat)(l:Nat):(FW a).inRound l=FW (aE l):=rfl
theorem aqp{s:St}{f:Option Nat}{n:Nat}{o:Oper}{W:jh}{next:Act->World->Prop}{Q:Exit->Act->World->Prop}(hs:l3 G N c w s a)(Y:oR P G o=aE W)
  (hd:uX N o.dst=cj) {v rf:Nat} {args:List D} {e0:Env} (kD:yieldOf s.env.get W=aE (v,args)) (C:s.H[v]? = aE (.iE rf e0 .ready)) {M:Nat} {ps:Array Tmp} {ac bc:Code} (xh:G.rt rf=aE (M,ps,ac,bc))
  (m:args.l=ps.size) (O':∀p∈ps.toList,p<M) {Ra Rb:Out->Prop}
  (hA:∀(f:Option Nat) (n:Nat) (Q:Exit->Act->World->Prop) (c:Ctx) (w:World) (a:Act),l3 G M c w { env:=vG ps.toList args e0,H:=s.H,iM:=cj } a ->
   yR G M s.H.l cj c s.H w Ra Q->ac.wpIn (FW f) n P Q a w)
  (hn:∀o,Ra o->o.stop=cp/\∃g,o.st.H[v]? = aE (.iE rf g .ready))
  (hB:∀s1 g,Ra (.norm s1)->s1.iM=cj->s1.H[v]? = aE (.iE rf g .ready)->∀(f:Option Nat) (n:Nat) (Q:Exit->Act->World->Prop) (c:Ctx) (w:World) (a:Act),l3 G M c w { s1 with H:=s1.H.set v (.iE rf g .busy) } a ->
   yR G M s1.H.l cj c (s1.H.set v (.iE rf g .busy)) w Rb Q->bc.wpIn (FW f) n P Q a w)
  (hm:∀o,Rb o->∃e,o.st.H[v]? = aE (.iE rf e .busy))
  (k:∀(q:Out) (e:Env) (c':Ctx) (w':World) (a':Act),Rb q->q.st.H[v]? = aE (.iE rf e .busy)->s.H.l<=q.st.H.l->l3 G N c' w' { s with env:=put s.env o.dst (.b !q.stop),H:=q.st.H.set v (.iE rf e q.BN) } a' ->
   Step s.H.l c s.H w c' (q.st.H.set v (.iE rf e q.BN)) w'->next a' w'):o.wpIn (FW f) n P a w next Q:=by
 obtain⟨L,r,vs,gC,iG,u,X,iJ⟩:=apl hs.gu hs.env Y kD C;obtain⟨r0,y,_,a3,⟨M',a4,a6⟩,a5⟩:=P9 hs C gC;rw[u]at y;cases y;rw[xh]at a4;cases a4;have V:v<s.H.l:=(ae.1 C).1;have iX:vs.l=r.params.size:=by rw[X.l];exact m
 refine⟨λ_ _=>trivial,?_⟩;rw[Oper.semAt_plain (FW f) a.eval o (Dy Y),iJ iX];refine⟨λh=>by simp[Fence.wide]at h,roundIn_of_wpIn (F:=FW f) trivial ?_⟩;rw[aif]
 have ZA:(r.params.zip vs.toArray).foldl (λtmps (t,a)=>tmps.setIfInBounds t a) r.tmps=(r.params.toList.zip vs).foldl (λ(tmps:Array Value) (p:Tmp×Value)=>tmps.setIfInBounds p.1 p.2) r.tmps:=by rw[<-Array.foldl_toList];simp
 refine hA (aE L.b) _ _ c w _ ⟨hs.gu,λj=>?_,?_,.nil⟩ ?_
 .show gq c w (Array.getD ((r.params.zip vs.toArray).foldl (λtmps (t,a)=>tmps.setIfInBounds t a) r.tmps) j undef) _;rw[ZA];exact Xt _ _ _ _ _ X (λp hp=>aR (O' p hp) a6) a3 j
 .show M<=Array.size ((r.params.zip vs.toArray).foldl (λtmps (t,a)=>tmps.setIfInBounds t a) r.tmps);rw[ZA,Yy];exact a6
 .intro T c1 w1 y A2 O R U Bk;obtain⟨x,g,B⟩:=hn T A2
  cases T with
  | exit=>cases x
  | ret=>cases x
  | norm s1=>
   have z:c1.ι v 0=aE L:=Bk.old v 0 L V gC;obtain⟨l,b1,b2,b3,_,b5⟩:=P9 U B z;have I:l.state = .ready/\l.pending=none:=b5;obtain⟨k1,k2,k3⟩:=ab5 (P:=P) (st':=.busy) U B z b1 { l with state:=.busy } rfl rfl rfl rfl rfl;refine⟨{ w1 with heap:=w1.heap.setIfInBounds L.b (.loop { l with state:=.busy }) },?_,?_⟩
   .have hg:(Instr.getLoop L.b).run P w1 = .ok l w1:=by simp[Instr.getLoop,getObj,Sem.run,b1]
    simp only[Instr.beginRound,Sem.run_bind,hg,Result.andThen_ok,k3,I.1];simp
   .refine hB s1 g A2 O B (aE L.b) _ _ c1 _ y k1 ?_;intro b c2 d h2 A3 h' IH Pf FE;obtain⟨e,A⟩:=hm b A3;have K:v<s1.H.l:=aR V R;have Bo:c2.ι v 0=aE L:=FE.old v 0 L K z;obtain⟨i,d1,d2,d3,_,d5⟩:=P9 Pf A Bo
    have key:∀(j:Option Code),b.BN.is { i with state:=if j.isNone then .ready else .done,pending:=j }->j.isNone = !b.stop->∃v w',(Instr.endRound L.b j).run P d = .ok v w'/\next (a.put o.dst v) w':=by
     intro j hj E;obtain⟨e1,e2,e3⟩:=ab5 (P:=P) (st':=b.BN) Pf A Bo d1 { i with state:=if j.isNone then .ready else .done,pending:=j } rfl rfl rfl rfl hj;have hg:(Instr.getLoop L.b).run P d = .ok i d:=by simp[Instr.getLoop,getObj,Sem.run,d1]
     refine⟨.bool j.isNone,{ d with heap:=d.heap.setIfInBounds L.b (.loop { i with state:=if j.isNone then .ready else .done,pending:=j }) },?_,?_⟩
     .simp only[Instr.endRound,Sem.run_bind,hg,Result.andThen_ok,e3];rfl
     .have J:gq c2 { d with heap:=d.heap.setIfInBounds L.b (.loop { i with state:=if j.isNone then .ready else .done,pending:=j }) } (.bool j.isNone) (.b !b.stop):=by
       have:D.b (!b.stop)=D.val (.bool j.isNone):=by rw[E]
       rw[this];exact .val _
      have Z:Step s.H.l c s.H w c2 (b.st.H.set v (.iE rf e b.BN)) { d with heap:=d.heap.setIfInBounds L.b (.loop { i with state:=if j.isNone then .ready else .done,pending:=j }) }:=
       (Bk.trans (k2.trans (FE.trans e2 IH) (bb _)) R)
      refine k b e c2 _ _ A3 A (Nat.le_trans R IH) (hs.next e1.gu Z hd J) Z
    cases b with
    | norm S=>exact key b4 ⟨rfl,rfl⟩ rfl
    | ret S=>exact key (aE .ret) ⟨rfl,rfl⟩ rfl
    | exit id S=>exact key (aE (.exit id)) ⟨rfl,rfl⟩ rfl
theorem ae0{s:St}(hs:l3 G N c w s a){rf:Nat}{ps:Array Tmp}{ac bc:Code}(l:G.rt rf=aE (N,ps,ac,bc))(live:List Nat)(fn:FuncId) :
  ∃(c2:Ctx) (w2:World) (g f:Loc),(Instr.enterLoop fn a.tmps ps ac bc b4).run P w = .ok (f.b,[{ target:=.collected g.b,args:=#[] }]) w2/\g.ko=cp/\f.ko=cp /\
   c2.ι s.H.l 0=aE g/\c2.ι (s.H.l+1) 0=aE f/\gL G c2 (s.H ++ [.ka,.iE rf (forget live s.env) .ready]) w2/\Step s.H.l c s.H w c2 (s.H ++ [.ka,.iE rf (forget live s.env) .ready]) w2:=by
 obtain⟨b,_,d⟩:=PN hs.gu (oD.last s.H) (.deferred (aE [])) .ka rfl rfl (λ_ e=>by simp only[iy];exact .inr e);simp only[Al.last]at b d;generalize n:c.set s.H.l 0 ⟨w.heap.size,0,0,cp⟩=c1 at b d;have k:c1.ι s.H.l 0=aE ⟨w.heap.size,0,0,cp⟩:=by rw[<-n];exact Ctx.tZ _ _ _ _
 generalize i:w.alloc (.deferred (aE []))=w1 at b d;have p:w1.heap.size=w.heap.size+1:=by rw[<-i];simp
 have o:(s.H ++ [Ob.ka]).l=s.H.l+1:=gf
 obtain⟨ot,_,h⟩:=PN b (oD.last (s.H ++ [.ka])) (.loop { state:=.ready,pending:=b4,fn:=fn,tmps:=a.tmps,params:=ps,assign:=ac,body:=bc,defers:=w.heap.size }) (.iE rf (forget live s.env) .ready) rfl rfl (λm e=>by
  simp only[iy];refine⟨trivial,_,e,λj=>m _ _ ((EK hs.env live j).rG hs.gu.toHeapOK d),⟨N,?_,hs.size⟩,rfl,rfl⟩
  rw[<-l,<-b.rt];rfl)
 simp only[Al.last,o,aN,fM]at ot h;refine⟨_,_,⟨w.heap.size,0,0,cp⟩,⟨w1.heap.size,0,0,cp⟩,?_,rfl,rfl,?_,Ctx.tZ _ _ _ _,ot,d.trans h U⟩
 .subst i;simp[Instr.enterLoop]
 .rw[Ctx.xO _ _ U];exact k
theorem aqn{s:St}{n:Nat}{Q:Exit->Act->World->Prop}(hs:l3 G N c w s a){g:Operand}{X:X}(hx:cX G g=aE X){f:FuncId}{first cap:List D}(sG:ev s.env.get X = .fn (.func f) first cap)
  (lZ:uu P f=cj) {rf:Nat} {ps:Array Tmp} {ac bc:Code} (xh:G.rt rf=aE (N,ps,ac,bc)) {live:List Nat} {R1:D->gg->Prop} {R:Out->Prop}
  (kc:wR P G f (first ++ [.jt (s.H.l+1)]++cap) (s.H ++ [.ka,.iE rf (forget live s.env) .ready]) R1)
  (k:∀d H',R1 d H'->∃env st o,H'[s.H.l+1]? = aE (.iE rf env st)/\BG { s with H:=H'.set (s.H.l+1) .dead,marks:=s.H.l::s.marks } st=aE o/\R o)
  (U:yR G N s.H.l s.iM c s.H w R Q):(Code.rangeFunc g ps ac bc).wpIn (FW b4) n P Q a w:=by
 refine wpIn_rangeFunc λfn _=>?_;obtain⟨c2,w2,E,l,Z,oX,pE,O,F,ot,Z9⟩:=ae0 (P:=P) hs xh live fn;have Z3:∀u d,gq c w u d->gq c2 w2 u d:=λu d hd=>hd.rG hs.gu.toHeapOK Z9;have T:=jj hs.gu hs.env hx;rw[sG]at T;generalize hu:a.eval g=u at T
 cases T with
 | fn _ fs cs _ _ q1 q2 q3 q4=>
  have a':gq c2 w2 (.func (.yield l.b) #[] #[]) (.jt (s.H.l+1)):=.jt _ l F pE
  have iP:j' c2 w2 (fs ++ [Value.func (.yield l.b) #[] #[]]++cs) (first ++ [.jt (s.H.l+1)]++cap):=
   ((j'.Jv q1 λi v d h1 C=>Z3 _ _ (q3 i v d h1 C)).append (.cons a' .nil)).append (j'.Jv q2 λi v d h1 C=>Z3 _ _ (q4 i v d h1 C))
  have FA:(resolve a.eval (rangeCall g l.b) 0).run P w2 = .ok { target:=.fn (.func f) cs.toArray,args:=fs.toArray ++ #[Value.func (.yield l.b) #[] #[]] } w2:=by simp[resolve,hu,Deferred.ofValue];rfl
  have B:(invoke (.fn (.func f) cs.toArray) (fs.toArray ++ #[Value.func (.yield l.b) #[] #[]])).run P w2 = .ok (.enter f (fs ++ [Value.func (.yield l.b) #[] #[]]++cs).toArray) w2:=by have C:=Qm (P:=P) lZ (fs ++ [Value.func (.yield l.b) #[] #[]]++cs).toArray w2;simpa[invoke]using C
  have kH:=kc c2 w2 _ ot iP
  have lI:CallsIn (FW b4) (n-1) P f (fs ++ [Value.func (.yield l.b) #[] #[]]++cs).toArray w2 (rangePost (FW b4) n P l.b Q { a with defers:=[{ target:=.collected E.b,args:=#[] }]++a.defers }):=by
   refine Hx.2 (kH.mono ?_);rintro e m ⟨v,t,d,K,rfl,hR,r,IN,_,FE⟩;obtain⟨env,st,q,lS,A,Ss⟩:=k d K hR;have M:(s.H ++ [Ob.ka,Ob.iE rf (forget live s.env) .ready]).l=s.H.l+2:=gf;have O:t.ι s.H.l 0=aE E:=FE.old _ 0 E (by rw[M];omega) O;have F:t.ι (s.H.l+1) 0=aE l:=FE.old _ 0 l (by rw[M];omega) F;have I:=IN.ob _ _ lS;simp only[Ob.gen]at I;rw[F]at I;simp only[iy]at I;obtain⟨_,p,S,_,_,y⟩:=I;have e1:l.b<m.heap.size:=(aU.1 S).1;obtain⟨m1,m2⟩:=Xm (w':={ m with heap:=m.heap.setIfInBounds l.b (.loop { p with state:=.exhausted }) }) IN lS rfl F pE ⟨rfl,bb _⟩ rfl rfl gf (λb hb=>by rw[cU (cH hb)])
   have z:Step s.H.l c s.H w t (K.set (s.H.l+1) .dead) { m with heap:=m.heap.setIfInBounds l.b (.loop { p with state:=.exhausted }) }:=
    Z9.trans (FE.trans m2 r) (by rw[M];omega)
   have J:l3 G N t { m with heap:=m.heap.setIfInBounds l.b (.loop { p with state:=.exhausted }) } { s with H:=K.set (s.H.l+1) .dead,marks:=s.H.l::s.marks } { a with defers:=[{ target:=.collected E.b,args:=#[] }]++a.defers }:=by
    refine⟨m1,λj=>(hs.env j).rG hs.gu.toHeapOK z,hs.size,.cons E O oX (hs.marks.mono λv L h=>z.old v 0 L ?_ h)⟩;rcases bJ v s.H.l with Y|Y
    .exact Y
    .rw[hs.gu.out v 0 Y]at h;cases h
   have ZT:p.state≠.busy:=by
    cases st with
    | busy=>cases A
    | ready=>rw[y.1];decide
    | Ck=>rw[y.1];decide
    | AJ=>rw[y.1];decide
   have Zy:(Instr.endLoop l.b).run P m = .ok p.pending { m with heap:=m.heap.setIfInBounds l.b (.loop { p with state:=.exhausted }) }:=by
    have hg:(Instr.getLoop l.b).run P m = .ok p m:=by have:m.heap[l.b]? = aE (.loop p):=S;simp[Instr.getLoop,getObj,Sem.run,this]
    have vg:(setObj l.b (.loop { p with state:=.exhausted })).run P m = .ok () { m with heap:=m.heap.setIfInBounds l.b (.loop { p with state:=.exhausted }) }:=by have:m.heap[l.b]? = aE (.loop p):=S;simp[setObj,Sem.run,this]
    have V:(p.state == .busy)=false:=by generalize p.state=x at ZT;cases x<;>first|rfl|exact absurd rfl ZT
    simp only[Instr.endLoop,Sem.run_bind,hg,Result.andThen_ok,V,vg];simp[vg]
   generalize ({ m with heap:=m.heap.setIfInBounds l.b (.loop { p with state:=.exhausted }) }:World)=W at J z Zy;refine⟨p.pending,W,Zy,?_⟩
   have S1:s.H.l<=(K.set (s.H.l+1) .dead).l:=by rw[M]at r;simp;omega
   cases st with
   | busy=>cases A
   | ready=>
    cases A;rw[y.2];exact U _ t _ _ Ss rfl S1 J z
   | Ck=>
    cases A;rw[y.2];exact wpIn_ret (U _ t _ _ Ss rfl S1 J z)
   | AJ id=>
    cases A;rw[y.2];exact wpIn_exit (U _ t _ _ Ss rfl S1 J z)
  exact⟨l.b,_,w2,_,w2,f,_,w2,Z,FA,λ_ _=>trivial,B,λh=>by simp[Fence.wide]at h,lI⟩
